/- Plain law of the machine's run over a text: what the events of a beginning are, and what an error tells. -/
import Derived.Test.YtomaajagncjiiaaPBx7
import Derived.Test.YtomaajagncjiiaaPBx8
import Derived.Test.YtomaajagncjiiaaBs
namespace Go.Proofs.Ytomaajagncjiiaa.PB
open Go.RowKit Go.Proofs.YtomaajagncjiiaaW.PrintWords Go.Proofs.YtomaajagncjiiaaW.PrintLast Go.Proofs.YtomaajagncjiiaaW.PrintMore
set_option linter.unusedVariables false

/-- What holds between the bytes. -/
structure Inv (most : Nat) (s : St) (i : Nat) : Prop where
  over : s.over = 0
  at_ : s.at_ = (i : Int)
  len : s.left.length ≤ most
  leaf0 : 0 ≤ s.leaf
  came : s.leaf ≠ 0 → s.came = []
  bytes : Idm.Bytes s.came
  left0 : ∀ x ∈ s.left, 0 ≤ x
theorem inv0 (most : Nat) : Inv most init0 0 := ⟨rfl, rfl, Nat.zero_le _, Int.le_refl _, fun _ => rfl, fun x hx => by simp [init0] at hx, fun x hx => by simp [init0] at hx⟩
theorem tk_len (l : List Int) : (Mxm.tk l).1.length = l.length := by
  cases l with
  | nil => rfl
  | cons x r => simp only [Mxm.tk]; split <;> simp
theorem tk_pos (l : List Int) (h : ∀ x ∈ l, 0 ≤ x) : ∀ x ∈ (Mxm.tk l).1, 0 ≤ x := by
  cases l with
  | nil => exact h
  | cons x r =>
    simp only [Mxm.tk]
    split
    · exact h
    · intro y hy
      have := h x (by simp)
      rcases List.mem_cons.1 hy with rfl | hy
      · omega
      · exact h y (by simp [hy])
theorem en_ok (most : Nat) (l : List Int) (n : Int) (hl : l.length ≤ most) (h0 : 0 ≤ n) (hp : ∀ x ∈ l, 0 ≤ x) (h : (Mxm.en most l n).2 = 0) : (Mxm.en most l n).1.length = l.length + 1 ∧ l.length + 1 ≤ most ∧ ∀ x ∈ (Mxm.en most l n).1, 0 ≤ x := by
  cases l with
  | nil =>
    simp only [Mxm.en] at h ⊢
    split at h
    · simp at h
    · rename_i h1
      rw [if_neg h1]
      exact ⟨rfl, by simp; omega, fun x hx => by simp at hx; omega⟩
  | cons x r =>
    simp only [Mxm.en] at h ⊢
    split at h
    · simp at h
    · rename_i h1
      rw [if_neg h1]
      split at h
      · simp at h
      · rename_i h2
        rw [if_neg h2]
        refine ⟨by simp, by simp at hl ⊢; omega, fun y hy => ?_⟩
        simp only [List.mem_cons] at hy
        rcases hy with rfl | rfl | hy
        · exact h0
        · omega
        · exact hp y (by simp [hy])
theorem exits_ev (at_ : Int) : ∀ (l : List Int), (∀ y ∈ (exits at_ l).2, y = ev 5 at_ h0 0) ∧ (exits at_ l).2.length + (exits at_ l).1.length = l.length
  | [] => ⟨fun y hy => by simp [exits] at hy, rfl⟩
  | x :: r => by
    have ih := exits_ev at_ r
    simp only [exits]
    split
    · refine ⟨fun y hy => ?_, by simp only [List.length_cons]; omega⟩
      rcases List.mem_cons.1 hy with rfl | hy
      · rfl
      · exact ih.1 y hy
    · exact ⟨fun y hy => by simp at hy, by simp⟩
theorem exits_pos (at_ : Int) : ∀ (l : List Int), (∀ x ∈ l, 0 ≤ x) → ∀ x ∈ (exits at_ l).1, 0 ≤ x
  | [], h => h
  | x :: r, h => by
    simp only [exits]
    split
    · exact exits_pos at_ r (fun y hy => h y (by simp [hy]))
    · exact h
/-- A head that is whole. -/
theorem hd_ok {l : List Int} (hb : Idm.Bytes l) (h : er l = 0) : Hdm.Whole (hd l).f0 (hd l).f1 (hd l).f3 ∧ ∃ p : Nat, 2 ≤ p ∧ p ≤ l.length ∧ Hdm.hdenc (hd l).f0 (hd l).f1 (hd l).f2 (hd l).f3 = l.take p := by
  have hv := Hdm.hg_back l _ _ _ _ _ hb (show Hdm.hg l = ((Hdm.hg l).1, (Hdm.hg l).2.1, (Hdm.hg l).2.2.1, (Hdm.hg l).2.2.2.1, (Hdm.hg l).2.2.2.2.1, 0) from Prod.ext rfl (Prod.ext rfl (Prod.ext rfl (Prod.ext rfl (Prod.ext rfl h)))))
  exact ⟨hv.1, _, hv.2.1, hv.2.2.1, hv.2.2.2⟩
/-- What a byte that is right does, of four kinds. -/
theorem step_cases (most : Nat) (s s1 : St) (b : Int) (x : List Ev) (h : stepM most s b = (s1, x, 0)) :
    (0 < s.leaf ∧ s1 = { s with left := (Mxm.tk s.left).1, leaf := s.leaf - 1 } ∧ x = ev 3 s.at_ h0 b :: ends s (s.leaf - 1)) ∨
    (¬ 0 < s.leaf ∧ (Mxm.tk s.left).2 = 0 ∧ ((er (s.came ++ [b]) = 2 ∧ s1 = { s with left := (Mxm.tk s.left).1, came := s.came ++ [b] } ∧ x = []) ∨
      (er (s.came ++ [b]) = 0 ∧ ¬ (0 < ((Mxm.tk s.left).1.length : Int) ∧ (Mxm.tk s.left).1.headD 0 < (hd (s.came ++ [b])).f3) ∧ ((hd (s.came ++ [b])).f2 = true ∧ (Mxm.en most (Mxm.tk s.left).1 (hd (s.came ++ [b])).f3).2 = 0 ∧
          s1 = { s with left := (Mxm.en most (Mxm.tk s.left).1 (hd (s.came ++ [b])).f3).1, came := [], begun := true } ∧ x = [ev 1 s.at_ (hd (s.came ++ [b])) 0] ∨
        (hd (s.came ++ [b])).f2 = false ∧ s1 = { s with left := (Mxm.tk s.left).1, came := [], begun := true, leaf := (hd (s.came ++ [b])).f3 } ∧ x = ev 2 s.at_ (hd (s.came ++ [b])) 0 :: ends s (hd (s.came ++ [b])).f3)))) := by
  unfold stepM at h
  by_cases h1 : 0 < s.leaf
  · rw [if_pos h1] at h
    simp only [Prod.mk.injEq, and_true] at h
    exact .inl ⟨h1, h.1.symm, h.2.symm⟩
  rw [if_neg h1] at h
  by_cases h2 : (Mxm.tk s.left).2 ≠ 0
  · rw [if_pos h2] at h
    simp only [Prod.mk.injEq] at h
    exact absurd h.2.2 h2
  rw [if_neg h2] at h
  refine .inr ⟨h1, by simpa using h2, ?_⟩
  by_cases h3 : er (s.came ++ [b]) = 2
  · rw [if_pos h3] at h
    simp only [Prod.mk.injEq, and_true] at h
    exact .inl ⟨h3, h.1.symm, h.2.symm⟩
  rw [if_neg h3] at h
  by_cases h4 : er (s.came ++ [b]) ≠ 0
  · rw [if_pos h4] at h
    simp only [Prod.mk.injEq] at h
    exact absurd h.2.2 h4
  rw [if_neg h4] at h
  refine .inr ⟨by simpa using h4, ?_⟩
  unfold beginM at h
  split at h
  · simp at h
  rename_i h5
  refine ⟨h5, ?_⟩
  split at h
  · rename_i h6
    split at h
    · rename_i h7
      simp only [Prod.mk.injEq] at h
      exact absurd h.2.2 h7
    · rename_i h7
      simp only [Prod.mk.injEq, and_true] at h
      exact .inl ⟨h6, by simpa [takeM] using h7, h.1.symm, h.2.symm⟩
  · rename_i h6
    simp only [Prod.mk.injEq, and_true] at h
    exact .inr ⟨by simpa using h6, h.1.symm, h.2.symm⟩
theorem push_ok (most : Nat) (s s' : St) (b : Int) (x : List Ev) (h0 : s.over = 0) (h : pushM most s b = (s', x, 0)) : done s = false ∧ ∃ s1 x1, stepM most s b = (s1, x1, 0) ∧ s' = (closeM s1).1 ∧ x = x1 ++ (closeM s1).2 := by
  unfold pushM at h
  rw [if_neg (by simp [h0])] at h
  by_cases hd : done s = true
  · rw [if_pos hd] at h; simp at h
  rw [if_neg hd] at h
  refine ⟨by simpa using hd, ?_⟩
  obtain ⟨⟨s1, x1, e1⟩, hs⟩ : ∃ q, stepM most s b = q := ⟨_, rfl⟩
  rw [hs] at h
  by_cases he : e1 = 0
  · subst he
    simp only [ne_eq, not_true_eq_false, if_false, Prod.mk.injEq, and_true] at h
    exact ⟨s1, x1, hs, h.1.symm, h.2.symm⟩
  · rw [if_pos he] at h
    simp only [Prod.mk.injEq] at h
    exact absurd h.2.2 he
theorem ends_ev (s : St) (n : Int) : ∀ y ∈ ends s n, y = ev 4 s.at_ h0 0 := by
  unfold ends
  split
  · intro y hy; simpa using hy
  · intro y hy; simp at hy
/-- Behind a byte that was right. -/
theorem push_inv (most : Nat) (s s' : St) (b : Int) (x : List Ev) (i : Nat) (hI : Inv most s i) (hb : 0 ≤ b ∧ b < 256) (h : pushM most s b = (s', x, 0)) : Inv most s' (i + 1) ∧ (∀ y ∈ x, y.f1 = (i : Int)) ∧ x.length ≤ most + 3 := by
  obtain ⟨hd, s1, x1, hs, rfl, rfl⟩ := push_ok most s s' b x hI.over h
  have hby := bytes_snoc hI.bytes hb
  have key : s1.over = 0 ∧ s1.at_ = (i : Int) ∧ s1.left.length ≤ most ∧ 0 ≤ s1.leaf ∧ (s1.leaf ≠ 0 → s1.came = []) ∧ Idm.Bytes s1.came ∧ (∀ x ∈ s1.left, 0 ≤ x) ∧ (∀ y ∈ x1, y.f1 = (i : Int)) ∧ x1.length ≤ 2 := by
    have tl := tk_len s.left
    have tp := tk_pos s.left hI.left0
    have eat := hI.at_
    have el : ∀ n, (ends s n).length ≤ 1 := ends_len s
    have ea : ∀ n, ∀ y ∈ ends s n, y.f1 = (i : Int) := fun n y hy => by rw [ends_ev s n y hy]; exact eat
    rcases step_cases most s s1 b x1 hs with ⟨g1, rfl, rfl⟩ | ⟨g1, g2, ⟨g3, rfl, rfl⟩ | ⟨g3, g4, ⟨g5, g6, rfl, rfl⟩ | ⟨g5, rfl, rfl⟩⟩⟩
    · refine ⟨hI.over, eat, by simp only; rw [tl]; exact hI.len, by simp only; omega, fun _ => hI.came (by omega), hI.bytes, tp, fun y hy => ?_, by have := el (s.leaf - 1); simp only [List.length_cons]; omega⟩
      rcases List.mem_cons.1 hy with rfl | hy
      · exact eat
      · exact ea _ y hy
    · exact ⟨hI.over, eat, by simp only; rw [tl]; exact hI.len, hI.leaf0, fun h => absurd h (by have := hI.leaf0; simp only; omega), hby, tp, fun y hy => by simp at hy, by simp⟩
    · have ho := hd_ok hby g3
      have e1 := en_ok most (Mxm.tk s.left).1 (_root_.Go.Proofs.Ytomaajagncjiiaa.PB.hd (s.came ++ [b])).f3 (by rw [tl]; exact hI.len) ho.1.2.1 tp g6
      exact ⟨hI.over, eat, by simp only; omega, hI.leaf0, fun _ => rfl, fun x hx => by simp at hx, e1.2.2, fun y hy => by simp at hy; rw [hy]; exact eat, by simp⟩
    · have ho := hd_ok hby g3
      refine ⟨hI.over, eat, by simp only; rw [tl]; exact hI.len, ho.1.2.1, fun _ => rfl, fun x hx => by simp at hx, tp, fun y hy => ?_, Nat.succ_le_succ (el _)⟩
      rcases List.mem_cons.1 hy with rfl | hy
      · exact eat
      · exact ea _ y hy
  obtain ⟨k1, k2, k3, k4, k5, k6, k7, k8, k9⟩ := key
  have xe := exits_ev s1.at_ s1.left
  have xp := exits_pos s1.at_ s1.left k7
  unfold closeM
  split
  · rename_i hc
    refine ⟨⟨k1, by simp only [k2]; omega, by simp only; omega, k4, k5, k6, xp⟩, fun y hy => ?_, by rw [List.length_append]; simp only; omega⟩
    rcases List.mem_append.1 hy with hy | hy
    · exact k8 y hy
    · rw [xe.1 y hy]; exact k2
  · exact ⟨⟨k1, by simp only [k2]; omega, k3, k4, k5, k6, k7⟩, fun y hy => k8 y (by simpa using hy), by rw [List.append_nil]; omega⟩
/-- A text that goes on, or not. -/
theorem run_split (most : Nat) : ∀ (l m : List Int) (s : St) (i : Nat) (acc : List Ev), Idm.Bytes l → Inv most s i →
    (∃ s' xs, Inv most s' (i + l.length) ∧ (∀ y ∈ xs, (i : Int) ≤ y.f1 ∧ y.f1 < ((i + l.length : Nat) : Int)) ∧ xs.length ≤ l.length * (most + 3) ∧ runM most s l i acc = (acc ++ xs, if done s' = true then 0 else 2, ((i + l.length : Nat) : Int)) ∧ runM most s (l ++ m) i acc = runM most s' m ((i + l.length : Nat) : Int) (acc ++ xs)) ∨
    (∃ xs e j, e ≠ 0 ∧ i ≤ j ∧ j < i + l.length ∧ (∀ y ∈ xs, (i : Int) ≤ y.f1 ∧ y.f1 < (j : Int)) ∧ xs.length ≤ l.length * (most + 3) ∧ runM most s l i acc = (acc ++ xs, e, ((j : Nat) : Int)) ∧ runM most s (l ++ m) i acc = (acc ++ xs, e, ((j : Nat) : Int)))
  | [], m, s, i, acc, hb, hI => .inl ⟨s, [], hI, fun y hy => by simp at hy, by simp, by simp [runM], by simp⟩
  | b :: r, m, s, i, acc, hb, hI => by
    obtain ⟨⟨s', x, e⟩, hp⟩ : ∃ q, pushM most s b = q := ⟨_, rfl⟩
    rw [List.cons_append, runM_step most s s' b x e _ _ _ hp, runM_step most s s' b x e _ _ _ hp]
    by_cases he : e = 0
    · subst he
      have hq := push_inv most s s' b x i hI (hb b (by simp)) hp
      simp only [ne_eq, not_true_eq_false, if_false]
      have ih := run_split most r m s' (i + 1) (acc ++ x) (fun y hy => hb y (by simp [hy])) hq.1
      have ei : ((i : Int) + 1) = ((i + 1 : Nat) : Int) := by omega
      rw [ei]
      rcases ih with ⟨s2, xs, a1, a2, a3, a4, a5⟩ | ⟨xs, e, j, a1, a2, a3, a4, a5, a6, a7⟩
      · refine .inl ⟨s2, x ++ xs, ?_, fun y hy => ?_, ?_, ?_, ?_⟩
        · rw [List.length_cons, show i + (r.length + 1) = i + 1 + r.length by omega]; exact a1
        · rcases List.mem_append.1 hy with hy | hy
          · have := hq.2.1 y hy
            simp only [List.length_cons]; omega
          · have := a2 y hy
            simp only [List.length_cons]; omega
        · rw [List.length_append, List.length_cons, Nat.add_mul]; have := hq.2.2; omega
        · rw [a4, List.append_assoc, List.length_cons, show i + (r.length + 1) = i + 1 + r.length by omega]
        · rw [a5, List.append_assoc, List.length_cons, show i + (r.length + 1) = i + 1 + r.length by omega]
      · refine .inr ⟨x ++ xs, e, j, a1, by omega, by simp only [List.length_cons]; omega, fun y hy => ?_, ?_, ?_, ?_⟩
        · rcases List.mem_append.1 hy with hy | hy
          · have := hq.2.1 y hy
            omega
          · have := a4 y hy
            omega
        · rw [List.length_append, List.length_cons, Nat.add_mul]; have := hq.2.2; omega
        · rw [a6, List.append_assoc]
        · rw [a7, List.append_assoc]
    · rw [if_pos he, if_pos he]
      exact .inr ⟨[], e, i, he, Nat.le_refl _, by simp, fun y hy => by simp at hy, by simp, by simp, by simp⟩
theorem run_more (most : Nat) (s : St) (hd : done s = true) (ho : s.over = 0) (b : Int) (r : List Int) (i : Int) (acc : List Ev) : runM most s (b :: r) i acc = (acc, 6, i) := by
  have hp : pushM most s b = ({ s with over := 6 }, [], 6) := by unfold pushM; rw [if_neg (by simp [ho]), if_pos hd]
  rw [runM_step most s _ b _ _ _ _ _ hp]
  rfl
/-- Two lists that are the same. -/
theorem same_l0 (l : List Ev) (hl : l.length ≤ 4611686018427387904) : ∀ (d k : Nat) (j : Nat), j + d = l.length → d < k → gantletref09_Same.l0 k l l (j : Int) = some true
  | 0, 0, j, h, hk => absurd hk (by omega)
  | 0, k + 1, j, h, hk => by
    simp only [gantletref09_Same.l0]
    rw [if_neg (by omega)]
  | d + 1, 0, j, h, hk => absurd hk (by omega)
  | d + 1, k + 1, j, h, hk => by
    simp only [gantletref09_Same.l0]
    rw [if_pos (by omega), if_pos (by omega), if_pos (by omega), if_neg (by simp), Bs.w64 (by omega) (by omega)]
    exact same_l0 l hl d k (j + 1) (by omega) (by omega)
theorem same_refl (k : Nat) (l : List Ev) (hl : l.length ≤ 4611686018427387904) (hk : l.length < k) : gantletref09_Same.f k l l = some true := by
  unfold gantletref09_Same.f
  rw [if_pos rfl]
  exact same_l0 l hl l.length k 0 (by omega) hk
theorem awake_ok (k : Nat) (hk : 20 ≤ k) : gantletlaw09_awake.f k = some true := by
  have h : ∀ d, gantletlaw09_awake.f (20 + d) = some true := by
    intro d
    induction d with
    | zero => decide +kernel
    | succ d ih => exact gantletlaw09_awake.mono (20 + d) _ ih
  obtain ⟨d, rfl⟩ : ∃ d, k = 20 + d := ⟨k - 20, by omega⟩
  exact h d
theorem rd_drop (l : List Ev) (j : Nat) (h : j < l.length) : rd_T36 l (j : Int) = l[j] := by
  unfold rd_T36
  rw [Int.toNat_natCast, List.getD_eq_getElem?_getD, List.getElem?_eq_getElem h]
  rfl
end Go.Proofs.Ytomaajagncjiiaa.PB
