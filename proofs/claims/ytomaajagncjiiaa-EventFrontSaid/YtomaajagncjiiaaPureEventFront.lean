/- The plain law of EventFront: the events of a text's beginning are those of the text that its bytes bring about. -/
import Derived.Test.YtomaajagncjiiaaMEv
import Derived.Test.YtomaajagncjiiaaPBx10
namespace Go.Proofs.Ytomaajagncjiiaa.Pure
open Go.RowKit Go.Proofs.Ytomaajagncjiiaa.PB Go.Proofs.YtomaajagncjiiaaW.PrintWords Go.Proofs.YtomaajagncjiiaaW.PrintLast Go.Proofs.YtomaajagncjiiaaW.PrintMore
set_option linter.unusedVariables false

theorem front_l0 (n : Int) (x10 x49 : List Ev) (x11 x12 : Int) (K : Nat) (hl : x49.length ≤ 1000000) (h12 : x12 ≤ n) (h11 : x12 < n ∨ x11 = 0 ∨ x11 = 2) (hx : x10 = x49.filter (fun y => decide (y.f1 < n))) (hK : x10.length < K) :
    ∀ (d k : Nat) (j : Nat) (x13 : List Ev), j + d = x49.length → d + 1 + K ≤ k → x13 = (x49.take j).filter (fun y => decide (y.f1 < n)) → gantletlaw09_EventFront.l0 k n x10 x11 x12 x13 x49 (x49.length : Int) (j : Int) = some true
  | 0, 0, j, x13, h, hk, h13 => absurd hk (by omega)
  | 0, k + 1, j, x13, h, hk, h13 => by
    simp only [gantletlaw09_EventFront.l0]
    rw [if_neg (by omega)]
    have e : x13 = x10 := by rw [h13, hx, List.take_of_length_le (by omega)]
    have hz : x10.length ≤ x49.length := by rw [hx]; exact List.length_filter_le _ _
    rw [e, same_refl k x10 (by omega) (by omega), Option.bind_some, if_pos rfl, if_pos h12]
    rcases h11 with h11 | h11 | h11
    · rw [if_pos h11]
    · subst h11; split <;> simp
    · subst h11; split <;> simp
  | d + 1, 0, j, x13, h, hk, h13 => absurd hk (by omega)
  | d + 1, k + 1, j, x13, h, hk, h13 => by
    simp only [gantletlaw09_EventFront.l0]
    have hj : j < x49.length := by omega
    have h13l : x13.length ≤ x49.length := by rw [h13]; exact Nat.le_trans (List.length_filter_le _ _) (by rw [List.length_take]; exact Nat.min_le_right _ _)
    rw [if_pos (by omega), if_pos (by omega), if_pos (by omega), rd_drop x49 j hj, Bs.w64 (by omega) (by omega)]
    have et : x49.take (j + 1) = x49.take j ++ [x49[j]] := by rw [List.take_add_one, List.getElem?_eq_getElem hj]; rfl
    by_cases hc : (x49[j]).f1 < n
    · rw [if_pos hc, if_pos (by omega)]
      refine front_l0 n x10 x49 x11 x12 K hl h12 h11 hx hK d k (j + 1) _ (by omega) (by omega) ?_
      rw [et, List.filter_append, ← h13]
      simp [hc]
    · rw [if_neg hc]
      refine front_l0 n x10 x49 x11 x12 K hl h12 h11 hx hK d k (j + 1) _ (by omega) (by omega) ?_
      rw [et, List.filter_append, ← h13]
      simp [hc]
theorem EventFront (a0 : ByteArray) (a1 a2 : Int) (_ : a0.size ≤ 140737488351232) (_ : (Lit.int .i64 a1).wf = true) (_ : (Lit.int .i64 a2).wf = true) : ∃ k, gantletlaw09_EventFront.f k a0 a1 a2 = some true := by
  refine ⟨100001, ?_⟩
  unfold gantletlaw09_EventFront.f gantletlaw09_great.f
  rw [awake_ok _ (by decide), Option.bind_some, if_pos rfl, Option.bind_some]
  have hj : ∀ k, gantletlaw09_EventFront.j0 (k + 21) a0 a1 a2 true = some true := by
    intro k
    simp only [gantletlaw09_EventFront.j0, if_true]
    rw [awake_ok _ (by omega), Option.bind_some]
  by_cases h1 : (a0.size : Int) > 300
  · rw [if_pos (by simpa using h1)]; exact hj 99980
  rw [if_neg (by simpa using h1)]
  by_cases h2 : a1 < 0
  · rw [if_pos h2]; exact hj 99980
  rw [if_neg h2]
  by_cases h3 : a1 > (a0.size : Int)
  · rw [show decide (a1 > (a0.size : Int)) = true from decide_eq_true h3]; exact hj 99980
  rw [show decide (a1 > (a0.size : Int)) = false from decide_eq_false h3]
  obtain ⟨n, rfl⟩ : ∃ n : Nat, a1 = (n : Int) := ⟨a1.toNat, by omega⟩
  simp only [gantletlaw09_EventFront.j0, Bool.false_eq_true, if_false]
  have hsz : (a0.extract 0 ((n : Int)).toNat).size = n := by rw [ByteArray.size_extract]; omega
  rw [show event_Whole.f a0 a2 = some (wholeM (mn (mx a2 0) 64).toNat (bytesOf a0)) by unfold event_Whole.f; rw [if_pos (by omega)], Option.bind_some, if_pos (by omega), if_pos (by omega),
    show event_Whole.f (a0.extract 0 ((n : Int)).toNat) a2 = some (wholeM (mn (mx a2 0) 64).toNat ((bytesOf a0).take n)) by unfold event_Whole.f; rw [if_pos (by omega), Bs.bytesOf_front, Int.toNat_natCast], Option.bind_some]
  have hm : (mn (mx a2 0) 64).toNat ≤ 64 := by
    have : mn (mx a2 0) 64 ≤ 64 := by unfold mn; split <;> omega
    omega
  generalize (mn (mx a2 0) 64).toNat = most at hm ⊢
  have hlen : (bytesOf a0).length = a0.size := bytesOf_length a0
  have htk : ((bytesOf a0).take n).length = n := by rw [List.length_take, hlen]; omega
  have hb := Bs.bytes_of a0
  have hbt : Idm.Bytes ((bytesOf a0).take n) := fun x hx => hb x (List.mem_of_mem_take hx)
  have hbd : Idm.Bytes ((bytesOf a0).drop n) := fun x hx => hb x (List.mem_of_mem_drop hx)
  have hw := run_split most ((bytesOf a0).take n) ((bytesOf a0).drop n) init0 0 [] hbt (inv0 most)
  rw [List.take_append_drop, htk] at hw
  simp only [Nat.zero_add, List.nil_append, Int.natCast_zero] at hw
  have hW : ∀ q r, runM most init0 ((bytesOf a0).take n) ((0 : Nat) : Int) [] = q → runM most init0 (bytesOf a0) ((0 : Nat) : Int) [] = r → q.1 = r.1.filter (fun y => decide (y.f1 < (n : Int))) → r.1.length ≤ 40200 → q.2.2 ≤ (n : Int) → (q.2.2 < (n : Int) ∨ q.2.1 = 0 ∨ q.2.1 = 2) →
      gantletlaw09_EventFront.l0 100000 (n : Int) (wholeM most ((bytesOf a0).take n)).1 (wholeM most ((bytesOf a0).take n)).2.1 (wholeM most ((bytesOf a0).take n)).2.2 ([] : List Ev) (wholeM most (bytesOf a0)).1 ((wholeM most (bytesOf a0)).1.length : Int) 0 = some true := by
    intro q r e1 e2 e3 e4 e5 e6
    have g1 : wholeM most ((bytesOf a0).take n) = q := e1
    have g2 : wholeM most (bytesOf a0) = r := e2
    rw [g1, g2]
    have hq : q.1.length ≤ r.1.length := by rw [e3]; exact List.length_filter_le _ _
    exact front_l0 (n : Int) q.1 r.1 q.2.1 q.2.2 40201 (by omega) e5 e6 e3 (by omega) r.1.length 100000 0 [] (by omega) (by omega) (by simp)
  have hmul : n * (most + 3) ≤ 300 * 67 := Nat.mul_le_mul (by omega) (by omega)
  rcases hw with ⟨s', xs, c1, c2, c3, c4, c5⟩ | ⟨xs, e, j, c0, c1, c2, c3, c4, c5, c6⟩
  · have hr := run_split most ((bytesOf a0).drop n) [] s' n xs hbd c1
    have hdl : ((bytesOf a0).drop n).length * (most + 3) ≤ 300 * 67 := Nat.mul_le_mul (by rw [List.length_drop]; omega) (by omega)
    have fin : ∀ ys : List Ev, (∀ y ∈ ys, (n : Int) ≤ y.f1) → ∀ e j, runM most s' ((bytesOf a0).drop n) (n : Int) xs = (xs ++ ys, e, j) → ys.length ≤ 300 * 67 → gantletlaw09_EventFront.l0 100000 (n : Int) (wholeM most ((bytesOf a0).take n)).1 (wholeM most ((bytesOf a0).take n)).2.1 (wholeM most ((bytesOf a0).take n)).2.2 ([] : List Ev) (wholeM most (bytesOf a0)).1 ((wholeM most (bytesOf a0)).1.length : Int) 0 = some true := by
      intro ys hy e j hrun hyl
      refine hW _ _ c4 (c5.trans hrun) ?_ ?_ (Int.le_refl _) (.inr ?_)
      · show xs = (xs ++ ys).filter _
        rw [List.filter_append, List.filter_eq_self.2 (fun y hy => decide_eq_true (c2 y hy).2), List.filter_eq_nil_iff.2 (fun y hy' => by have := hy y hy'; simp; omega), List.append_nil]
      · show (xs ++ ys).length ≤ 40200
        rw [List.length_append]; omega
      · show (if done s' = true then (0 : Int) else 2) = 0 ∨ (if done s' = true then (0 : Int) else 2) = 2
        split
        · exact .inl rfl
        · exact .inr rfl
    rcases hr with ⟨s2, ys, d1, d2, d3, d4, d5⟩ | ⟨ys, e, j, d0, d1, d2, d3, d4, d5, d6⟩
    · exact fin ys (fun y hy => (d2 y hy).1) _ _ d4 (by omega)
    · exact fin ys (fun y hy => (d3 y hy).1) _ _ d5 (by omega)
  · refine hW _ _ c5 c6 ?_ ?_ ?_ (.inl ?_)
    · show xs = xs.filter _
      rw [List.filter_eq_self.2 (fun y hy => decide_eq_true (by have := c3 y hy; omega))]
    · show xs.length ≤ 40200
      omega
    · show (j : Int) ≤ n
      omega
    · show (j : Int) < n
      omega
end Go.Proofs.Ytomaajagncjiiaa.Pure
