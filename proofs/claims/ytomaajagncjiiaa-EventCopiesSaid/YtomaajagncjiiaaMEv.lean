/- Plain law of the machine's run over a text: what the events of a beginning are, and what an error tells. -/
import Derived.Test.YtomaajagncjiiaaPCx6
import Derived.Test.YtomaajagncjiiaaPCx7
import Derived.Test.YtomaajagncjiiaaBs
namespace Go.Proofs.Ytomaajagncjiiaa.PC
open Go.RowKit Go.Proofs.YtomaajagncjiiaaW.PrintWords Go.Proofs.YtomaajagncjiiaaW.PrintLast Go.Proofs.YtomaajagncjiiaaW.PrintMore
set_option linter.unusedVariables false
set_option linter.unusedSimpArgs false

/-- What holds between the bytes. -/
structure Inv (most : Nat) (s : St) (i : Nat) : Prop where
  over : s.over = 0
  at_ : s.at_ = (i : Int)
  len : s.left.length ≤ most
  leaf0 : 0 ≤ s.leaf
  came : s.leaf ≠ 0 → s.came = []
  bytes : Idm.Bytes s.came
  left0 : ∀ x ∈ s.left, 0 ≤ x
theorem inv0 (most : Nat) : Inv most init0 0 := ⟨rfl, rfl, Nat.zero_le _, Int.le_refl _, fun _ => rfl, fun x hx => by simp [init0] at hx, fun x hx => by simp [init0] at hx⟩
theorem tk_len (l : List Int) : (Mxm.tk l).1.length = l.length := by
  cases l with
  | nil => rfl
  | cons x r => simp only [Mxm.tk]; split <;> simp
theorem tk_pos (l : List Int) (h : ∀ x ∈ l, 0 ≤ x) : ∀ x ∈ (Mxm.tk l).1, 0 ≤ x := by
  cases l with
  | nil => exact h
  | cons x r =>
    simp only [Mxm.tk]
    split
    · exact h
    · intro y hy
      have := h x (by simp)
      rcases List.mem_cons.1 hy with rfl | hy
      · omega
      · exact h y (by simp [hy])
theorem en_ok (most : Nat) (l : List Int) (n : Int) (hl : l.length ≤ most) (h0 : 0 ≤ n) (hp : ∀ x ∈ l, 0 ≤ x) (h : (Mxm.en most l n).2 = 0) : (Mxm.en most l n).1.length = l.length + 1 ∧ l.length + 1 ≤ most ∧ ∀ x ∈ (Mxm.en most l n).1, 0 ≤ x := by
  cases l with
  | nil =>
    simp only [Mxm.en] at h ⊢
    split at h
    · simp at h
    · rename_i h1
      rw [if_neg h1]
      exact ⟨rfl, by simp; omega, fun x hx => by simp at hx; omega⟩
  | cons x r =>
    simp only [Mxm.en] at h ⊢
    split at h
    · simp at h
    · rename_i h1
      rw [if_neg h1]
      split at h
      · simp at h
      · rename_i h2
        rw [if_neg h2]
        refine ⟨by simp, by simp at hl ⊢; omega, fun y hy => ?_⟩
        simp only [List.mem_cons] at hy
        rcases hy with rfl | rfl | hy
        · exact h0
        · omega
        · exact hp y (by simp [hy])
theorem exits_ev (at_ : Int) : ∀ (l : List Int), (∀ y ∈ (exits at_ l).2, y = ev 5 at_ h0 0) ∧ (exits at_ l).2.length + (exits at_ l).1.length = l.length
  | [] => ⟨fun y hy => by simp [exits] at hy, rfl⟩
  | x :: r => by
    have ih := exits_ev at_ r
    simp only [exits]
    split
    · refine ⟨fun y hy => ?_, by simp only [List.length_cons]; omega⟩
      rcases List.mem_cons.1 hy with rfl | hy
      · rfl
      · exact ih.1 y hy
    · exact ⟨fun y hy => by simp at hy, by simp⟩
theorem exits_pos (at_ : Int) : ∀ (l : List Int), (∀ x ∈ l, 0 ≤ x) → ∀ x ∈ (exits at_ l).1, 0 ≤ x
  | [], h => h
  | x :: r, h => by
    simp only [exits]
    split
    · exact exits_pos at_ r (fun y hy => h y (by simp [hy]))
    · exact h
/-- A head that is whole. -/
theorem hd_ok {l : List Int} (hb : Idm.Bytes l) (h : er l = 0) : Hdm.Whole (hd l).f0 (hd l).f1 (hd l).f3 ∧ ∃ p : Nat, 2 ≤ p ∧ p ≤ l.length ∧ Hdm.hdenc (hd l).f0 (hd l).f1 (hd l).f2 (hd l).f3 = l.take p := by
  have hv := Hdm.hg_back l _ _ _ _ _ hb (show Hdm.hg l = ((Hdm.hg l).1, (Hdm.hg l).2.1, (Hdm.hg l).2.2.1, (Hdm.hg l).2.2.2.1, (Hdm.hg l).2.2.2.2.1, 0) from Prod.ext rfl (Prod.ext rfl (Prod.ext rfl (Prod.ext rfl (Prod.ext rfl h)))))
  exact ⟨hv.1, _, hv.2.1, hv.2.2.1, hv.2.2.2⟩
/-- What a byte that is right does, of four kinds. -/
theorem step_cases (most : Nat) (s s1 : St) (b : Int) (x : List Ev) (h : stepM most s b = (s1, x, 0)) :
    (0 < s.leaf ∧ s1 = { s with left := (Mxm.tk s.left).1, leaf := s.leaf - 1 } ∧ x = ev 3 s.at_ h0 b :: ends s (s.leaf - 1)) ∨
    (¬ 0 < s.leaf ∧ (Mxm.tk s.left).2 = 0 ∧ ((er (s.came ++ [b]) = 2 ∧ s1 = { s with left := (Mxm.tk s.left).1, came := s.came ++ [b] } ∧ x = []) ∨
      (er (s.came ++ [b]) = 0 ∧ ¬ (0 < ((Mxm.tk s.left).1.length : Int) ∧ (Mxm.tk s.left).1.headD 0 < (hd (s.came ++ [b])).f3) ∧ ((hd (s.came ++ [b])).f2 = true ∧ (Mxm.en most (Mxm.tk s.left).1 (hd (s.came ++ [b])).f3).2 = 0 ∧
          s1 = { s with left := (Mxm.en most (Mxm.tk s.left).1 (hd (s.came ++ [b])).f3).1, came := [], begun := true } ∧ x = [ev 1 s.at_ (hd (s.came ++ [b])) 0] ∨
        (hd (s.came ++ [b])).f2 = false ∧ s1 = { s with left := (Mxm.tk s.left).1, came := [], begun := true, leaf := (hd (s.came ++ [b])).f3 } ∧ x = ev 2 s.at_ (hd (s.came ++ [b])) 0 :: ends s (hd (s.came ++ [b])).f3)))) := by
  unfold stepM at h
  by_cases h1 : 0 < s.leaf
  · rw [if_pos h1] at h
    simp only [Prod.mk.injEq, and_true] at h
    exact .inl ⟨h1, h.1.symm, h.2.symm⟩
  rw [if_neg h1] at h
  by_cases h2 : (Mxm.tk s.left).2 ≠ 0
  · rw [if_pos h2] at h
    simp only [Prod.mk.injEq] at h
    exact absurd h.2.2 h2
  rw [if_neg h2] at h
  refine .inr ⟨h1, by simpa using h2, ?_⟩
  by_cases h3 : er (s.came ++ [b]) = 2
  · rw [if_pos h3] at h
    simp only [Prod.mk.injEq, and_true] at h
    exact .inl ⟨h3, h.1.symm, h.2.symm⟩
  rw [if_neg h3] at h
  by_cases h4 : er (s.came ++ [b]) ≠ 0
  · rw [if_pos h4] at h
    simp only [Prod.mk.injEq] at h
    exact absurd h.2.2 h4
  rw [if_neg h4] at h
  refine .inr ⟨by simpa using h4, ?_⟩
  unfold beginM at h
  split at h
  · simp at h
  rename_i h5
  refine ⟨h5, ?_⟩
  split at h
  · rename_i h6
    split at h
    · rename_i h7
      simp only [Prod.mk.injEq] at h
      exact absurd h.2.2 h7
    · rename_i h7
      simp only [Prod.mk.injEq, and_true] at h
      exact .inl ⟨h6, by simpa [takeM] using h7, h.1.symm, h.2.symm⟩
  · rename_i h6
    simp only [Prod.mk.injEq, and_true] at h
    exact .inr ⟨by simpa using h6, h.1.symm, h.2.symm⟩
theorem push_ok (most : Nat) (s s' : St) (b : Int) (x : List Ev) (h0 : s.over = 0) (h : pushM most s b = (s', x, 0)) : done s = false ∧ ∃ s1 x1, stepM most s b = (s1, x1, 0) ∧ s' = (closeM s1).1 ∧ x = x1 ++ (closeM s1).2 := by
  unfold pushM at h
  rw [if_neg (by simp [h0])] at h
  by_cases hd : done s = true
  · rw [if_pos hd] at h; simp at h
  rw [if_neg hd] at h
  refine ⟨by simpa using hd, ?_⟩
  obtain ⟨⟨s1, x1, e1⟩, hs⟩ : ∃ q, stepM most s b = q := ⟨_, rfl⟩
  rw [hs] at h
  by_cases he : e1 = 0
  · subst he
    simp only [ne_eq, not_true_eq_false, if_false, Prod.mk.injEq, and_true] at h
    exact ⟨s1, x1, hs, h.1.symm, h.2.symm⟩
  · rw [if_pos he] at h
    simp only [Prod.mk.injEq] at h
    exact absurd h.2.2 he
theorem ends_ev (s : St) (n : Int) : ∀ y ∈ ends s n, y = ev 4 s.at_ h0 0 := by
  unfold ends
  split
  · intro y hy; simpa using hy
  · intro y hy; simp at hy
/-- Behind a byte that was right. -/
theorem push_inv (most : Nat) (s s' : St) (b : Int) (x : List Ev) (i : Nat) (hI : Inv most s i) (hb : 0 ≤ b ∧ b < 256) (h : pushM most s b = (s', x, 0)) : Inv most s' (i + 1) ∧ (∀ y ∈ x, y.f1 = (i : Int)) ∧ x.length ≤ most + 3 := by
  obtain ⟨hd, s1, x1, hs, rfl, rfl⟩ := push_ok most s s' b x hI.over h
  have hby := bytes_snoc hI.bytes hb
  have key : s1.over = 0 ∧ s1.at_ = (i : Int) ∧ s1.left.length ≤ most ∧ 0 ≤ s1.leaf ∧ (s1.leaf ≠ 0 → s1.came = []) ∧ Idm.Bytes s1.came ∧ (∀ x ∈ s1.left, 0 ≤ x) ∧ (∀ y ∈ x1, y.f1 = (i : Int)) ∧ x1.length ≤ 2 := by
    have tl := tk_len s.left
    have tp := tk_pos s.left hI.left0
    have eat := hI.at_
    have el : ∀ n, (ends s n).length ≤ 1 := ends_len s
    have ea : ∀ n, ∀ y ∈ ends s n, y.f1 = (i : Int) := fun n y hy => by rw [ends_ev s n y hy]; exact eat
    rcases step_cases most s s1 b x1 hs with ⟨g1, rfl, rfl⟩ | ⟨g1, g2, ⟨g3, rfl, rfl⟩ | ⟨g3, g4, ⟨g5, g6, rfl, rfl⟩ | ⟨g5, rfl, rfl⟩⟩⟩
    · refine ⟨hI.over, eat, by simp only; rw [tl]; exact hI.len, by simp only; omega, fun _ => hI.came (by omega), hI.bytes, tp, fun y hy => ?_, by have := el (s.leaf - 1); simp only [List.length_cons]; omega⟩
      rcases List.mem_cons.1 hy with rfl | hy
      · exact eat
      · exact ea _ y hy
    · exact ⟨hI.over, eat, by simp only; rw [tl]; exact hI.len, hI.leaf0, fun h => absurd h (by have := hI.leaf0; simp only; omega), hby, tp, fun y hy => by simp at hy, by simp⟩
    · have ho := hd_ok hby g3
      have e1 := en_ok most (Mxm.tk s.left).1 (_root_.Go.Proofs.Ytomaajagncjiiaa.PC.hd (s.came ++ [b])).f3 (by rw [tl]; exact hI.len) ho.1.2.1 tp g6
      exact ⟨hI.over, eat, by simp only; omega, hI.leaf0, fun _ => rfl, fun x hx => by simp at hx, e1.2.2, fun y hy => by simp at hy; rw [hy]; exact eat, by simp⟩
    · have ho := hd_ok hby g3
      refine ⟨hI.over, eat, by simp only; rw [tl]; exact hI.len, ho.1.2.1, fun _ => rfl, fun x hx => by simp at hx, tp, fun y hy => ?_, Nat.succ_le_succ (el _)⟩
      rcases List.mem_cons.1 hy with rfl | hy
      · exact eat
      · exact ea _ y hy
  obtain ⟨k1, k2, k3, k4, k5, k6, k7, k8, k9⟩ := key
  have xe := exits_ev s1.at_ s1.left
  have xp := exits_pos s1.at_ s1.left k7
  unfold closeM
  split
  · rename_i hc
    refine ⟨⟨k1, by simp only [k2]; omega, by simp only; omega, k4, k5, k6, xp⟩, fun y hy => ?_, by rw [List.length_append]; simp only; omega⟩
    rcases List.mem_append.1 hy with hy | hy
    · exact k8 y hy
    · rw [xe.1 y hy]; exact k2
  · exact ⟨⟨k1, by simp only [k2]; omega, k3, k4, k5, k6, k7⟩, fun y hy => k8 y (by simpa using hy), by rw [List.append_nil]; omega⟩
/-- A text that goes on, or not. -/
theorem run_split (most : Nat) : ∀ (l m : List Int) (s : St) (i : Nat) (acc : List Ev), Idm.Bytes l → Inv most s i →
    (∃ s' xs, Inv most s' (i + l.length) ∧ (∀ y ∈ xs, (i : Int) ≤ y.f1 ∧ y.f1 < ((i + l.length : Nat) : Int)) ∧ xs.length ≤ l.length * (most + 3) ∧ runM most s l i acc = (acc ++ xs, if done s' = true then 0 else 2, ((i + l.length : Nat) : Int)) ∧ runM most s (l ++ m) i acc = runM most s' m ((i + l.length : Nat) : Int) (acc ++ xs)) ∨
    (∃ xs e j, e ≠ 0 ∧ i ≤ j ∧ j < i + l.length ∧ (∀ y ∈ xs, (i : Int) ≤ y.f1 ∧ y.f1 < (j : Int)) ∧ xs.length ≤ l.length * (most + 3) ∧ runM most s l i acc = (acc ++ xs, e, ((j : Nat) : Int)) ∧ runM most s (l ++ m) i acc = (acc ++ xs, e, ((j : Nat) : Int)))
  | [], m, s, i, acc, hb, hI => .inl ⟨s, [], hI, fun y hy => by simp at hy, by simp, by simp [runM], by simp⟩
  | b :: r, m, s, i, acc, hb, hI => by
    obtain ⟨⟨s', x, e⟩, hp⟩ : ∃ q, pushM most s b = q := ⟨_, rfl⟩
    rw [List.cons_append, runM_step most s s' b x e _ _ _ hp, runM_step most s s' b x e _ _ _ hp]
    by_cases he : e = 0
    · subst he
      have hq := push_inv most s s' b x i hI (hb b (by simp)) hp
      simp only [ne_eq, not_true_eq_false, if_false]
      have ih := run_split most r m s' (i + 1) (acc ++ x) (fun y hy => hb y (by simp [hy])) hq.1
      have ei : ((i : Int) + 1) = ((i + 1 : Nat) : Int) := by omega
      rw [ei]
      rcases ih with ⟨s2, xs, a1, a2, a3, a4, a5⟩ | ⟨xs, e, j, a1, a2, a3, a4, a5, a6, a7⟩
      · refine .inl ⟨s2, x ++ xs, ?_, fun y hy => ?_, ?_, ?_, ?_⟩
        · rw [List.length_cons, show i + (r.length + 1) = i + 1 + r.length by omega]; exact a1
        · rcases List.mem_append.1 hy with hy | hy
          · have := hq.2.1 y hy
            simp only [List.length_cons]; omega
          · have := a2 y hy
            simp only [List.length_cons]; omega
        · rw [List.length_append, List.length_cons, Nat.add_mul]; have := hq.2.2; omega
        · rw [a4, List.append_assoc, List.length_cons, show i + (r.length + 1) = i + 1 + r.length by omega]
        · rw [a5, List.append_assoc, List.length_cons, show i + (r.length + 1) = i + 1 + r.length by omega]
      · refine .inr ⟨x ++ xs, e, j, a1, by omega, by simp only [List.length_cons]; omega, fun y hy => ?_, ?_, ?_, ?_⟩
        · rcases List.mem_append.1 hy with hy | hy
          · have := hq.2.1 y hy
            omega
          · have := a4 y hy
            omega
        · rw [List.length_append, List.length_cons, Nat.add_mul]; have := hq.2.2; omega
        · rw [a6, List.append_assoc]
        · rw [a7, List.append_assoc]
    · rw [if_pos he, if_pos he]
      exact .inr ⟨[], e, i, he, Nat.le_refl _, by simp, fun y hy => by simp at hy, by simp, by simp, by simp⟩
theorem run_more (most : Nat) (s : St) (hd : done s = true) (ho : s.over = 0) (b : Int) (r : List Int) (i : Int) (acc : List Ev) : runM most s (b :: r) i acc = (acc, 6, i) := by
  have hp : pushM most s b = ({ s with over := 6 }, [], 6) := by unfold pushM; rw [if_neg (by simp [ho]), if_pos hd]
  rw [runM_step most s _ b _ _ _ _ _ hp]
  rfl
/-- Two lists that are the same. -/
theorem same_l0 (l : List Ev) (hl : l.length ≤ 4611686018427387904) : ∀ (d k : Nat) (j : Nat), j + d = l.length → d < k → gantletref09_Same.l0 k l l (j : Int) = some true
  | 0, 0, j, h, hk => absurd hk (by omega)
  | 0, k + 1, j, h, hk => by
    simp only [gantletref09_Same.l0]
    rw [if_neg (by omega)]
  | d + 1, 0, j, h, hk => absurd hk (by omega)
  | d + 1, k + 1, j, h, hk => by
    simp only [gantletref09_Same.l0]
    rw [if_pos (by omega), if_pos (by omega), if_pos (by omega), if_neg (by simp), Bs.w64 (by omega) (by omega)]
    exact same_l0 l hl d k (j + 1) (by omega) (by omega)
theorem same_refl (k : Nat) (l : List Ev) (hl : l.length ≤ 4611686018427387904) (hk : l.length < k) : gantletref09_Same.f k l l = some true := by
  unfold gantletref09_Same.f
  rw [if_pos rfl]
  exact same_l0 l hl l.length k 0 (by omega) hk
theorem awake_ok (k : Nat) (hk : 20 ≤ k) : gantletlaw09_awake.f k = some true := by
  have h : ∀ d, gantletlaw09_awake.f (20 + d) = some true := by
    intro d
    induction d with
    | zero => decide +kernel
    | succ d ih => exact gantletlaw09_awake.mono (20 + d) _ ih
  obtain ⟨d, rfl⟩ : ∃ d, k = 20 + d := ⟨k - 20, by omega⟩
  exact h d
theorem rd_drop (l : List Ev) (j : Nat) (h : j < l.length) : rd_T36 l (j : Int) = l[j] := by
  unfold rd_T36
  rw [Int.toNat_natCast, List.getD_eq_getElem?_getD, List.getElem?_eq_getElem h]
  rfl

/-- So many bytes of the innermost came. -/
def dc (j : Nat) : List Int → List Int
  | [] => []
  | x :: r => (x - (j : Int)) :: r
theorem dc_zero (l : List Int) : dc 0 l = l := by cases l <;> simp [dc]
theorem tk_dc (j : Nat) (l : List Int) (h : ∀ x r, l = x :: r → (j : Int) < x) : Mxm.tk (dc j l) = (dc (j + 1) l, 0) := by
  cases l with
  | nil => rfl
  | cons x r =>
    have := h x r rfl
    simp only [dc, Mxm.tk]
    rw [if_neg (by omega)]
    refine congrArg (·, (0 : Int)) (congrArg (· :: r) ?_)
    omega
/-- The state behind so many bytes of a head. -/
def sj (s : St) (H : List Int) (j : Nat) : St := { s with came := H.take j, left := dc j s.left, at_ := s.at_ + (j : Int) }
theorem done_sj (s : St) (H : List Int) (j : Nat) (hj : 0 < j) (hH : j ≤ H.length) : done (sj s H j) = false := by
  have h : ((H.take j).length : Int) ≠ 0 := by rw [List.length_take]; omega
  unfold done sj
  simp only
  rw [beq_eq_false_iff_ne.2 h, Bool.and_false]
/-- A head's byte that isn't its last one. -/
theorem push_head (most : Nat) (s : St) (H : List Int) (j : Nat) (b : Int) (r : List Int) (h0 : s.over = 0) (hl : s.leaf = 0) (hd : done s = false) (hc : s.came = []) (hdr : H.drop j = b :: r) (he : er (H.take (j + 1)) = 2) (hx : ∀ x r, s.left = x :: r → (j : Int) < x) :
    pushM most (sj s H j) b = (sj s H (j + 1), [], 0) := by
  have hlen : j < H.length := by
    have := congrArg List.length hdr
    rw [List.length_drop, List.length_cons] at this
    omega
  have hb : H.take (j + 1) = H.take j ++ [b] := by
    rw [List.take_add_one]
    have : H[j]? = some b := by rw [← List.head?_drop, hdr]; rfl
    rw [this]; rfl
  have hdn : done (sj s H j) = false := by
    by_cases hz : 0 < j
    · exact done_sj s H j hz (by omega)
    · obtain rfl : j = 0 := by omega
      have : sj s H 0 = s := by
        unfold sj
        rw [dc_zero, List.take_zero, ← hc]
        cases s; simp
      rw [this]; exact hd
  unfold pushM
  rw [if_neg (show ¬ (sj s H j).over ≠ 0 by simp [sj, h0]), if_neg (by rw [hdn]; decide)]
  have hs : stepM most (sj s H j) b = ({ takeM (sj s H j) with came := (sj s H j).came ++ [b] }, [], 0) := by
    unfold stepM
    rw [if_neg (show ¬ 0 < (sj s H j).leaf by simp [sj, hl]), show (sj s H j).left = dc j s.left from rfl, tk_dc j s.left hx, if_neg (fun h => h rfl), show (sj s H j).came = H.take j from rfl, ← hb, if_pos he]
  rw [hs, if_neg (fun h => h rfl)]
  have hcl : closeM { takeM (sj s H j) with came := (sj s H j).came ++ [b] } = (sj s H (j + 1), []) := by
    unfold closeM
    rw [if_neg (by simp)]
    simp only [takeM, sj]
    rw [tk_dc j s.left hx, hb]
    refine congrArg (·, ([] : List Ev)) ?_
    simp only [St.mk.injEq, true_and, and_true]
    omega
  rw [hcl]; rfl
/-- A whole head but its last byte. -/
theorem head_front (most : Nat) (s : St) (H : List Int) (p : Nat) (hp : p = H.length) (h0 : s.over = 0) (hl : s.leaf = 0) (hd : done s = false) (hc : s.came = []) (he : ∀ j, j < p → er (H.take j) = 2 ∨ j = 0) (hx : ∀ x r, s.left = x :: r → (p : Int) ≤ x) (rest : List Int) (acc : List Ev) (i : Int) :
    ∀ d j : Nat, j + d + 1 = p → runM most (sj s H j) (H.drop j ++ rest) (i + (j : Int)) acc = runM most (sj s H (p - 1)) (H.drop (p - 1) ++ rest) (i + ((p - 1 : Nat) : Int)) acc
  | 0, j, h => by rw [show j = p - 1 by omega]
  | d + 1, j, h => by
    obtain ⟨b, r, hdr⟩ : ∃ b r, H.drop j = b :: r := by
      cases hq : H.drop j with
      | nil => have := congrArg List.length hq; rw [List.length_drop] at this; simp at this; omega
      | cons b r => exact ⟨b, r, rfl⟩
    have he1 : er (H.take (j + 1)) = 2 := by
      rcases he (j + 1) (by omega) with h | h
      · exact h
      · omega
    have hr : r = H.drop (j + 1) := by rw [← List.tail_drop, hdr]; rfl
    rw [hdr, List.cons_append, runM_step most _ _ b [] 0 _ _ _ (push_head most s H j b r h0 hl hd hc hdr he1 (fun x r hxr => by have := hx x r hxr; omega)), if_neg (by decide), List.append_nil, hr, show i + (j : Int) + 1 = i + ((j + 1 : Nat) : Int) by omega]
    exact head_front most s H p hp h0 hl hd hc he hx rest acc i d (j + 1) (by omega)
theorem er_cut {c t n : Int} {cons : Bool} (hw : Hdm.Whole c t n) (j : Nat) (hj : j < (Hdm.hdenc c t cons n).length) : er ((Hdm.hdenc c t cons n).take j) = 2 := by
  unfold er; rw [Hdm.hg_cut cons hw j hj]
/-- Over a whole head. -/
theorem head_run (most : Nat) (s : St) (c t n : Int) (cons : Bool) (hw : Hdm.Whole c t n) (p : Nat) (hp : p = (Hdm.hdenc c t cons n).length) (h0 : s.over = 0) (hl : s.leaf = 0) (hd : done s = false) (hc : s.came = []) (hx : ∀ x r, s.left = x :: r → (p : Int) ≤ x)
    (rest : List Int) (acc : List Ev) (i : Int) (s1 : St) (x : List Ev) (e : Int) (hb : beginM most { sj s (Hdm.hdenc c t cons n) p with at_ := s.at_ + (p : Int) - 1 } ⟨c, t, cons, n⟩ = (s1, x, e)) :
    runM most s (Hdm.hdenc c t cons n ++ rest) i acc = if e ≠ 0 then (acc, e, i + (p : Int) - 1) else runM most (closeM s1).1 rest (i + (p : Int)) (acc ++ (x ++ (closeM s1).2)) := by
  have h2 := (Hdm.hdenc_len cons hw).2.1
  have hg0 := Hdm.hg_enc0 cons hw
  have hcut := fun j hj => er_cut (cons := cons) hw j hj
  generalize hH : Hdm.hdenc c t cons n = H at *
  have s0 : sj s H 0 = s := by
    unfold sj
    rw [dc_zero, List.take_zero, ← hc]
    cases s; simp
  have hf := head_front most s H p hp h0 hl hd hc (fun j hj => .inl (hcut j (by omega))) hx rest acc i (p - 1) 0 (by omega)
  rw [s0, List.drop_zero, show i + ((0 : Nat) : Int) = i by omega] at hf
  rw [hf]
  obtain ⟨b, hdr⟩ : ∃ b, H.drop (p - 1) = [b] := by
    cases hq : H.drop (p - 1) with
    | nil => have := congrArg List.length hq; rw [List.length_drop] at this; simp at this; omega
    | cons b r =>
      have := congrArg List.length hq
      rw [List.length_drop, List.length_cons] at this
      have : r = [] := List.eq_nil_of_length_eq_zero (by omega)
      exact ⟨b, by rw [this]⟩
  have hb2 : H.take (p - 1) ++ [b] = H := by rw [← hdr]; exact List.take_append_drop _ _
  have hps : pushM most (sj s H (p - 1)) b = if e ≠ 0 then ({ s1 with over := e }, [], e) else ((closeM s1).1, x ++ (closeM s1).2, 0) := by
    unfold pushM
    rw [if_neg (show ¬ (sj s H (p - 1)).over ≠ 0 by simp [sj, h0]), if_neg (by rw [done_sj s H (p - 1) (by omega) (by omega)]; decide)]
    have hs : stepM most (sj s H (p - 1)) b = (s1, x, e) := by
      unfold stepM
      have ez : er H = 0 := by unfold er; rw [hg0]
      have eh : _root_.Go.Proofs.Ytomaajagncjiiaa.PC.hd H = ⟨c, t, cons, n⟩ := by unfold _root_.Go.Proofs.Ytomaajagncjiiaa.PC.hd; rw [hg0]
      rw [if_neg (show ¬ 0 < (sj s H (p - 1)).leaf by simp [sj, hl]), show (sj s H (p - 1)).left = dc (p - 1) s.left from rfl, tk_dc (p - 1) s.left (fun x r hxr => by have := hx x r hxr; omega), if_neg (fun h => h rfl), show (sj s H (p - 1)).came = H.take (p - 1) from rfl, hb2, ez, if_neg (by decide), if_neg (by decide), eh, ← hb]
      refine congrArg (fun q => beginM most q _) ?_
      simp only [takeM, sj]
      rw [tk_dc (p - 1) s.left (fun x r hxr => by have := hx x r hxr; omega), show p - 1 + 1 = p by omega, hp, List.take_length, ← hp]
      simp only [St.mk.injEq, true_and, and_true]
      omega
    rw [hs]
  rw [hdr]
  by_cases he : e = 0
  · subst he
    rw [if_neg (by decide)] at hps
    rw [if_neg (by decide), List.singleton_append, runM_step most _ _ b _ 0 _ _ _ hps, if_neg (by decide), show i + ((p - 1 : Nat) : Int) + 1 = i + (p : Int) by omega]
  · rw [if_pos he] at hps
    rw [if_pos he, List.singleton_append, runM_step most _ _ b _ e _ _ _ hps, if_pos he, show i + ((p - 1 : Nat) : Int) = i + (p : Int) - 1 by omega]
/-- The events of a content's bytes, and its end. -/
def bodyE (i : Int) : List Int → List Ev
  | [] => []
  | [b] => [ev 3 i h0 b, ev 4 i h0 0]
  | b :: r => ev 3 i h0 b :: bodyE (i + 1) r
theorem bodyE_len : ∀ (c : List Int) (i : Int), c ≠ [] → (bodyE i c).length = c.length + 1
  | [], i, h => absurd rfl h
  | [b], i, h => rfl
  | b :: b2 :: r, i, h => by simp only [bodyE, List.length_cons]; rw [bodyE_len (b2 :: r) (i + 1) (by simp)]; simp
/-- A primitive element's content; what stands open behind it. -/
theorem content_run (most : Nat) (m : List Int) : ∀ (c : List Int) (s : St) (i : Int) (acc : List Ev), c ≠ [] → s.over = 0 → s.came = [] → s.leaf = (c.length : Int) → s.at_ = i → (∀ x r, s.left = x :: r → (c.length : Int) ≤ x) →
    runM most s (c ++ m) i acc = runM most (closeM { s with left := dc c.length s.left, leaf := 0, at_ := i + (c.length : Int) - 1 }).1 m (i + (c.length : Int)) (acc ++ (bodyE i c ++ (exits (i + (c.length : Int) - 1) (dc c.length s.left)).2))
  | [], s, i, acc, h, _, _, _, _, _ => absurd rfl h
  | [b], s, i, acc, h, ho, hc, hl, ha, hx => by
    have htk : Mxm.tk s.left = (dc 1 s.left, 0) := by
      have := tk_dc 0 s.left (fun x r hxr => by have := hx x r hxr; simp at this; omega)
      rwa [dc_zero] at this
    have hl1 : s.leaf = 1 := by simpa using hl
    have hp : pushM most s b = ((closeM { s with left := dc 1 s.left, leaf := 0 }).1, [ev 3 i h0 b, ev 4 i h0 0] ++ (closeM { s with left := dc 1 s.left, leaf := 0 }).2, 0) := by
      unfold pushM
      rw [if_neg (by simp [ho]), if_neg (by unfold done; simp [hl1])]
      have hs : stepM most s b = ({ s with left := dc 1 s.left, leaf := 0 }, [ev 3 i h0 b, ev 4 i h0 0], 0) := by
        unfold stepM
        rw [if_pos (by omega)]
        simp only [contentM, takeM, htk, hl1, ends, ha]
        rfl
      rw [hs]; simp
    rw [List.singleton_append, runM_step most _ _ b _ 0 _ _ _ hp, if_neg (by decide)]
    have ea : i + (([b] : List Int).length : Int) - 1 = i := by simp only [List.length_singleton]; omega
    have el : i + (([b] : List Int).length : Int) = i + 1 := by simp
    rw [ea, el]
    have es : ({ s with left := dc ([b] : List Int).length s.left, leaf := 0, at_ := i } : St) = { s with left := dc 1 s.left, leaf := 0 } := by rw [← ha]; rfl
    rw [es]
    have ee : (closeM { s with left := dc 1 s.left, leaf := 0 }).2 = (exits i (dc ([b] : List Int).length s.left)).2 := by
      unfold closeM; rw [if_pos ⟨rfl, hc⟩]; simp only [ha]; rfl
    rw [ee]; rfl
  | b :: b2 :: r, s, i, acc, h, ho, hc, hl, ha, hx => by
    have htk : Mxm.tk s.left = (dc 1 s.left, 0) := by
      have := tk_dc 0 s.left (fun x r hxr => by have := hx x r hxr; simp at this; omega)
      rwa [dc_zero] at this
    have hl1 : 1 < s.leaf := by rw [hl]; simp only [List.length_cons]; omega
    have hp : pushM most s b = ({ s with left := dc 1 s.left, leaf := s.leaf - 1, at_ := s.at_ + 1 }, [ev 3 i h0 b], 0) := by
      unfold pushM
      rw [if_neg (by simp [ho]), if_neg (by unfold done; simp; intros; omega)]
      have hs : stepM most s b = ({ s with left := dc 1 s.left, leaf := s.leaf - 1 }, [ev 3 i h0 b], 0) := by
        unfold stepM
        rw [if_pos (by omega)]
        simp only [contentM, takeM, htk, ends, ha]
        rw [if_neg (by omega)]
      rw [hs]
      have hcl : closeM { s with left := dc 1 s.left, leaf := s.leaf - 1 } = ({ s with left := dc 1 s.left, leaf := s.leaf - 1, at_ := s.at_ + 1 }, []) := by
        unfold closeM; rw [if_neg (by simp only; omega)]
      simp [hcl]
    rw [List.cons_append, runM_step most _ _ b _ 0 _ _ _ hp, if_neg (by decide)]
    have hdd : ∀ (k : Nat) (l : List Int), dc k (dc 1 l) = dc (k + 1) l := by
      intro k l
      cases l with
      | nil => rfl
      | cons x r => simp only [dc]; refine congrArg (· :: r) ?_; omega
    have ih := content_run most m (b2 :: r) { s with left := dc 1 s.left, leaf := s.leaf - 1, at_ := s.at_ + 1 } (i + 1) (acc ++ [ev 3 i h0 b]) (by simp) ho hc (by simp only [hl, List.length_cons]; omega) (by simp only [ha]) (fun x r' hxr => by
      cases hls : s.left with
      | nil => rw [hls] at hxr; simp [dc] at hxr
      | cons y q =>
        rw [hls] at hxr
        simp only [dc, List.cons.injEq] at hxr
        have := hx y q hls
        simp only [List.length_cons] at this ⊢
        omega)
    rw [ih]
    simp only [hdd]
    have e1 : i + 1 + ((b2 :: r).length : Int) = i + ((b :: b2 :: r).length : Int) := by simp only [List.length_cons]; omega
    rw [e1, List.append_assoc]
    rfl
end Go.Proofs.Ytomaajagncjiiaa.PC
