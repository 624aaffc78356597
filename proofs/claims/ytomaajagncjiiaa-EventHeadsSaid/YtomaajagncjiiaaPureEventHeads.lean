/- The plain law of EventHeads: a whole element's bytes are its events', one by one: each head put again, and each byte of content. -/
import Derived.Test.YtomaajagncjiiaaMEv
import Derived.Test.YtomaajagncjiiaaBRf
import Derived.Test.YtomaajagncjiiaaPBx16
namespace Go.Proofs.Ytomaajagncjiiaa.Pure
open Go.RowKit Go.Proofs.Ytomaajagncjiiaa.PB Go.Proofs.YtomaajagncjiiaaW.PrintWords Go.Proofs.YtomaajagncjiiaaW.PrintLast Go.Proofs.YtomaajagncjiiaaW.PrintMore
set_option linter.unusedVariables false
set_option linter.unusedSimpArgs false

/-- What an event's bytes are. -/
def evb (y : Ev) : List Int := if y.f0 = 1 ∨ y.f0 = 2 then Hdm.hdenc y.f2.f0 y.f2.f1 y.f2.f2 y.f2.f3 else if y.f0 = 3 then [y.f3] else []
def okH : Nat → List Ev → Prop
  | _, [] => True
  | n, y :: r => ((y.f0 = 1 ∨ y.f0 = 2) → Hdm.Whole y.f2.f0 y.f2.f1 y.f2.f3 ∧ y.f1 = ((n + (evb y).length : Nat) : Int) - 1) ∧ (y.f0 = 3 → 0 ≤ y.f3 ∧ y.f3 < 256) ∧ okH (n + (evb y).length) r
def evbs : List Ev → List Int
  | [] => []
  | y :: r => evb y ++ evbs r
theorem evbs_append : ∀ x y : List Ev, evbs (x ++ y) = evbs x ++ evbs y
  | [], y => rfl
  | z :: x, y => by simp only [List.cons_append, evbs, evbs_append x y, List.append_assoc]
theorem okH_append : ∀ (x y : List Ev) (n : Nat), okH n x → okH (n + (evbs x).length) y → okH n (x ++ y)
  | [], y, n, h1, h2 => by simpa [evbs] using h2
  | z :: x, y, n, h1, h2 => ⟨h1.1, h1.2.1, okH_append x y _ h1.2.2 (by simpa [evbs, Nat.add_assoc] using h2)⟩
theorem heads_l0 (a : ByteArray) (l : List Ev) (hl : l.length ≤ 1000000) (ha : a.size ≤ 1000) :
    ∀ (d k j : Nat) (x6 : ByteArray), j + d = l.length → 2 * d + 1 + 40 ≤ k → okH x6.size (l.drop j) → bytesOf x6 ++ evbs (l.drop j) = bytesOf a → gantletlaw09_EventHeads.l0 k a x6 l (l.length : Int) (j : Int) = some true
  | 0, 0, j, x6, h, hk, hq, hf => absurd hk (by omega)
  | 0, k + 1, j, x6, h, hk, hq, hf => by
    simp only [gantletlaw09_EventHeads.l0]
    rw [if_neg (by omega)]
    rw [List.drop_of_length_le (by omega)] at hf
    simp only [evbs, List.append_nil] at hf
    rw [Bs.toList_beq, hf]
    simp
  | d + 1, k, j, x6, h, hk, hq, hf => by
    obtain ⟨m, rfl⟩ : ∃ m, k = m + 2 := ⟨k - 2, by omega⟩
    have hm0 : 2 * d + 1 + 40 ≤ m := by omega
    have hj : j < l.length := by omega
    have e64 : wrap64 ((j : Int) + 1) = ((j + 1 : Nat) : Int) := by rw [Bs.w64 (by omega) (by omega)]; omega
    have hj1 : (j : Int) < (l.length : Int) := Int.ofNat_lt.2 hj
    have hjd : j + 1 + d = l.length := by omega
    have h20 : 20 ≤ m := by omega
    have hxs : x6.size + (evbs (l.drop j)).length ≤ 1000 := by
      have := congrArg List.length hf
      rw [List.length_append, bytesOf_length, bytesOf_length] at this
      omega
    rw [List.drop_eq_getElem_cons hj] at hq hf hxs
    obtain ⟨b1, b2, hr⟩ := hq
    simp only [evbs] at hf hxs
    rw [List.length_append] at hxs
    simp only [gantletlaw09_EventHeads.l0]
    rw [if_pos hj1, if_pos (Int.natCast_nonneg j), if_pos hj1, rd_drop l j hj]
    generalize l[j] = y at *
    have nxt : ∀ z : ByteArray, bytesOf z = evb y → gantletlaw09_EventHeads.l0 m a (x6 ++ z) l (l.length : Int) ((j + 1 : Nat) : Int) = some true := by
      intro z hz
      have hzl : z.size = (evb y).length := by rw [← bytesOf_length, hz]
      exact heads_l0 a l hl ha d m (j + 1) (x6 ++ z) hjd hm0 (by rw [ByteArray.size_append, hzl]; exact hr) (by rw [Bs.bytesOf_append, hz, List.append_assoc]; exact hf)
    by_cases h12 : y.f0 = 1 ∨ y.f0 = 2
    · obtain ⟨hw, hat⟩ := b1 h12
      have hev : evb y = Hdm.hdenc y.f2.f0 y.f2.f1 y.f2.f2 y.f2.f3 := by unfold evb; rw [if_pos h12]
      have hby : Idm.Bytes (Hdm.hdenc y.f2.f0 y.f2.f1 y.f2.f2 y.f2.f3) := Hdm.hdenc_bytes hw
      have hz : (strOfNums (Hdm.hdenc y.f2.f0 y.f2.f1 y.f2.f2 y.f2.f3)).size = (evb y).length := by rw [hev, ← bytesOf_length, Bs.bytesOf_nums _ hby]
      have key : gantletlaw09_EventHeads.j2 (m + 1) a x6 l (l.length : Int) (j : Int) y.f0 true y.f0 y.f1 y.f2.f0 y.f2.f1 y.f2.f2 y.f2.f3 y.f3 = some true := by
        simp only [gantletlaw09_EventHeads.j2, if_true]
        rw [BHd.rhput_ok m y.f2.f2 hw h20, Option.bind_some]
        simp only [if_true]
        rw [if_pos (by rw [hz]; omega), if_pos (by rw [ByteArray.size_append, hz, Bs.w64 (by omega) (by omega)]; exact hat), e64]
        exact nxt _ (by rw [Bs.bytesOf_nums _ hby, hev])
      rcases h12 with h1 | h2
      · rw [if_pos h1]; rw [show (y.f0 == 1) = true from beq_iff_eq.2 h1]; exact key
      · rw [if_neg (by omega)]; rw [show (y.f0 == 2) = true from beq_iff_eq.2 h2]; exact key
    · have h1 : ¬ y.f0 = 1 := fun h => h12 (.inl h)
      have h2 : ¬ y.f0 = 2 := fun h => h12 (.inr h)
      rw [if_neg h1, show (y.f0 == 2) = false from beq_eq_false_iff_ne.2 h2]
      simp only [gantletlaw09_EventHeads.j2, Bool.false_eq_true, if_false]
      by_cases h3 : y.f0 = 3
      · have hev : evb y = [y.f3] := by unfold evb; rw [if_neg h12, if_pos h3]
        have hby : Idm.Bytes [y.f3] := by intro x hx; rw [List.mem_singleton.1 hx]; exact b2 h3
        have hz : (strOfNums [y.f3]).size = 1 := by rw [← bytesOf_length, Bs.bytesOf_nums _ hby]; rfl
        rw [hev] at hxs
        simp only [List.length_singleton] at hxs
        rw [if_pos h3, Option.bind_some, if_pos (by rw [hz]; omega), e64]
        exact nxt _ (by rw [Bs.bytesOf_nums _ hby, hev])
      · have hev : evb y = [] := by unfold evb; rw [if_neg h12, if_neg h3]
        rw [if_neg h3, e64]
        have := nxt ⟨#[]⟩ (by rw [hev]; rfl)
        rwa [show x6 ++ (⟨#[]⟩ : ByteArray) = x6 from Bs.bytesOf_inj (by rw [Bs.bytesOf_append]; exact List.append_nil _)] at this
/-- Between the bytes: a head's beginning. -/
def Cm (s : St) : Prop := s.came = [] ∨ er s.came = 2
theorem exits_bytes (at_ : Int) (l : List Int) (n : Nat) : evbs (exits at_ l).2 = [] ∧ okH n (exits at_ l).2 := by
  have h := (exits_ev at_ l).1
  generalize (exits at_ l).2 = x at h
  induction x with
  | nil => exact ⟨rfl, trivial⟩
  | cons y r ih =>
    have ih := ih (fun z hz => h z (by simp [hz]))
    have hy := h y (by simp)
    have he : evb y = [] := by rw [hy]; simp [evb, ev]
    exact ⟨by simp only [evbs, he, ih.1, List.nil_append], fun h => absurd h (by rw [hy]; simp [ev]), fun h => absurd h (by rw [hy]; simp [ev]), by rw [he]; exact ih.2⟩
theorem ends_bytes (s : St) (n : Int) (m : Nat) : evbs (ends s n) = [] ∧ okH m (ends s n) := by
  unfold ends
  split
  · exact ⟨by simp [evbs, evb, ev], fun h => absurd h (by simp [ev]), fun h => absurd h (by simp [ev]), trivial⟩
  · exact ⟨rfl, trivial⟩
/-- A head that is whole with its last byte. -/
theorem whole_now (came : List Int) (b : Int) (hb : Idm.Bytes (came ++ [b])) (hc : came = [] ∨ er came = 2) (h : er (came ++ [b]) = 0) : Hdm.Whole (hd (came ++ [b])).f0 (hd (came ++ [b])).f1 (hd (came ++ [b])).f3 ∧ Hdm.hdenc (hd (came ++ [b])).f0 (hd (came ++ [b])).f1 (hd (came ++ [b])).f2 (hd (came ++ [b])).f3 = came ++ [b] := by
  obtain ⟨hw, p, h2, hp, he⟩ := hd_ok hb h
  refine ⟨hw, ?_⟩
  have hl : (came ++ [b]).length = came.length + 1 := by simp
  by_cases hpe : p = came.length + 1
  · rw [he, List.take_of_length_le (by omega)]
  · exfalso
    have hpl : p ≤ came.length := by omega
    have ht : (came ++ [b]).take p = came.take p := List.take_append_of_le_length hpl
    rw [ht] at he
    rcases hc with hc | hc
    · rw [hc] at hpl; simp at hpl; omega
    · have := Hdm.hg_enc (hd (came ++ [b])).f2 hw (came.drop p)
      rw [he, List.take_append_drop] at this
      unfold er at hc
      rw [this] at hc
      exact absurd (show (0 : Int) = 2 from hc) (by decide)
theorem push_heads (most : Nat) (s s' : St) (b : Int) (x : List Ev) (i : Nat) (hI : Inv most s i) (hC : Cm s) (hcl : s.came.length ≤ i) (hb : 0 ≤ b ∧ b < 256) (h : pushM most s b = (s', x, 0)) :
    Cm s' ∧ s'.came.length ≤ i + 1 ∧ okH (i - s.came.length) x ∧ evbs x ++ s'.came = s.came ++ [b] := by
  obtain ⟨hd', s1, x1, hs, rfl, rfl⟩ := push_ok most s s' b x hI.over h
  have eat := hI.at_
  have key : Cm s1 ∧ s1.came.length ≤ i + 1 ∧ okH (i - s.came.length) x1 ∧ evbs x1 ++ s1.came = s.came ++ [b] := by
    have hby := bytes_snoc hI.bytes hb
    rcases step_cases most s s1 b x1 hs with ⟨g1, rfl, rfl⟩ | ⟨g1, g2, ⟨g3, rfl, rfl⟩ | ⟨g3, g4, ⟨g5, g6, rfl, rfl⟩ | ⟨g5, rfl, rfl⟩⟩⟩
    · have hc := hI.came (by omega)
      have en := ends_bytes s (s.leaf - 1)
      have e : evb (ev 3 s.at_ h0 b) = [b] := by simp [evb, ev]
      refine ⟨hC, by simp only; omega, ⟨fun h => absurd h (by simp [ev]), fun _ => hb, (en _).2⟩, ?_⟩
      simp only [evbs, e, (en 0).1, hc]
      rfl
    · refine ⟨.inr g3, by simp; omega, trivial, rfl⟩
    · obtain ⟨hw, he⟩ := whole_now s.came b hby hC g3
      generalize _root_.Go.Proofs.Ytomaajagncjiiaa.PB.hd (s.came ++ [b]) = hh at *
      have e : evb (ev 1 s.at_ hh 0) = s.came ++ [b] := by rw [← he]; simp [evb, ev]
      refine ⟨.inl rfl, by simp, ⟨fun _ => ⟨hw, ?_⟩, fun h => absurd h (by simp [ev]), trivial⟩, ?_⟩
      · rw [e]; simp only [ev, List.length_append, List.length_singleton]; omega
      · simp only [evbs, e, List.append_nil]
    · obtain ⟨hw, he⟩ := whole_now s.came b hby hC g3
      generalize _root_.Go.Proofs.Ytomaajagncjiiaa.PB.hd (s.came ++ [b]) = hh at *
      have e : evb (ev 2 s.at_ hh 0) = s.came ++ [b] := by rw [← he]; simp [evb, ev]
      have en := ends_bytes s hh.f3
      refine ⟨.inl rfl, by simp, ⟨fun _ => ⟨hw, ?_⟩, fun h => absurd h (by simp [ev]), (en _).2⟩, ?_⟩
      · rw [e]; simp only [ev, List.length_append, List.length_singleton]; omega
      · simp only [evbs, e, (en 0).1, List.append_nil]
  obtain ⟨k1, k2, k3, k4⟩ := key
  unfold closeM
  split
  · rename_i hc
    have xe := exits_bytes s1.at_ s1.left
    refine ⟨k1, k2, okH_append _ _ _ k3 (xe _).2, ?_⟩
    rw [evbs_append, (xe 0).1, List.append_nil]
    exact k4
  · simp only [List.append_nil]
    exact ⟨k1, k2, k3, k4⟩
theorem run_heads (most : Nat) : ∀ (l : List Int) (s : St) (i : Nat) (acc : List Ev), Inv most s i → Cm s → s.came.length ≤ i → Idm.Bytes l →
    ∃ xs e j, runM most s l (i : Int) acc = (acc ++ xs, e, j) ∧ okH (i - s.came.length) xs ∧ (e = 0 → evbs xs = s.came ++ l) ∧ xs.length ≤ l.length * (most + 3)
  | [], s, i, acc, hI, hC, hcl, hb => by
    refine ⟨[], (if done s = true then 0 else 2), (i : Int), by rw [List.append_nil]; rfl, trivial, fun h => ?_, by simp⟩
    by_cases hd : done s = true
    · unfold done at hd
      simp only [Bool.and_eq_true, beq_iff_eq] at hd
      have : s.came = [] := List.eq_nil_of_length_eq_zero (by omega)
      rw [this]; rfl
    · rw [if_neg hd] at h; exact absurd h (by decide)
  | b :: r, s, i, acc, hI, hC, hcl, hb => by
    obtain ⟨⟨s', x, e⟩, hp⟩ : ∃ q, pushM most s b = q := ⟨_, rfl⟩
    rw [runM_step most s s' b x e _ _ _ hp]
    have hbr := hb b (by simp)
    by_cases he : e = 0
    · subst he
      have hq := push_inv most s s' b x i hI hbr hp
      obtain ⟨n1, n2, n3, n4⟩ := push_heads most s s' b x i hI hC hcl hbr hp
      obtain ⟨xs, e, j, c1, c2, c3, c4⟩ := run_heads most r s' (i + 1) (acc ++ x) hq.1 n1 n2 (fun y hy => hb y (by simp [hy]))
      simp only [ne_eq, not_true_eq_false, if_false]
      have hl := congrArg List.length n4
      simp only [List.length_append, List.length_singleton] at hl
      refine ⟨x ++ xs, e, j, ?_, okH_append _ _ _ n3 ?_, fun h => ?_, ?_⟩
      · rw [← List.append_assoc, ← c1, show ((i : Int) + 1) = ((i + 1 : Nat) : Int) by omega]
      · rw [show i - s.came.length + (evbs x).length = i + 1 - s'.came.length by omega]; exact c2
      · rw [evbs_append, c3 h, ← List.append_assoc, n4, List.append_assoc]; rfl
      · rw [List.length_append, List.length_cons, Nat.add_mul]; have := hq.2.2; omega
    · rw [if_pos he]
      exact ⟨[], e, _, by rw [List.append_nil], trivial, fun h => absurd h he, by simp⟩
theorem EventHeads (a0 : ByteArray) (_ : a0.size ≤ 140737488351232) : ∃ k, gantletlaw09_EventHeads.f k a0 = some true := by
  refine ⟨100001, ?_⟩
  unfold gantletlaw09_EventHeads.f gantletlaw09_great.f
  rw [awake_ok _ (by decide), Option.bind_some, if_pos rfl, Option.bind_some]
  by_cases h1 : (a0.size : Int) > 300
  · rw [show decide ((a0.size : Int) > 300) = true from decide_eq_true h1]
    simp only [gantletlaw09_EventHeads.j0, if_true]
    rw [awake_ok _ (by decide), Option.bind_some]
  rw [show decide ((a0.size : Int) > 300) = false from decide_eq_false h1]
  simp only [gantletlaw09_EventHeads.j0, Bool.false_eq_true, if_false]
  rw [show event_Whole.f a0 64 = some (wholeM 64 (bytesOf a0)) by unfold event_Whole.f; rw [if_pos (by omega), show (mn (mx 64 0) 64).toNat = 64 by decide], Option.bind_some]
  obtain ⟨xs, e, j, c1, c2, c3, c4⟩ := run_heads 64 (bytesOf a0) init0 0 [] (inv0 64) (.inl rfl) (by simp [init0]) (Bs.bytes_of a0)
  have hw : wholeM 64 (bytesOf a0) = (xs, e, j) := c1
  rw [hw]
  have hmul : (bytesOf a0).length * (64 + 3) ≤ 300 * 67 := Nat.mul_le_mul (by rw [bytesOf_length]; omega) (by omega)
  by_cases he : e = 0
  · rw [if_pos he]
    exact heads_l0 a0 xs (by omega) (by omega) xs.length 100000 0 ⟨#[]⟩ (by omega) (by omega) c2 (c3 he)
  · rw [if_neg he]
end Go.Proofs.Ytomaajagncjiiaa.Pure
