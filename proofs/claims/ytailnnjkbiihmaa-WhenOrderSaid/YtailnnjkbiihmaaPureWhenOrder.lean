/- The plain law of WhenOrder: of two dates with contents of one tag the later one is the greater text. -/
import Derived.Test.YtailnnjkbiihmaaODat
import Derived.Test.YtailnnjkbiihmaaPAx8
namespace Go.Proofs.Ytailnnjkbiihmaa.Pure
open Go.RowKit Go.Proofs.Ytailnnjkbiihmaa.PA Go.Proofs.YtailnnjkbiihmaaW.PrintWords Go.Proofs.YtailnnjkbiihmaaW.PrintLast Go.Proofs.YtailnnjkbiihmaaW.PrintMore
open Go.Proofs.Ytailnnjkbiihmaa.Bs Go.Proofs.Ytailnnjkbiihmaa.BDat Go.Proofs.Ytailnnjkbiihmaa.Dt
set_option linter.unusedVariables false

theorem two_cases (a b : ByteArray) (u v : Bool) (c d : ByteArray) (p q : List Int) (ha : a.size = 14) (hb : b.size = 14)
    (hc : Con (tagOf u) (bytesOf c) u p) (hd : Con (tagOf v) (bytesOf d) v q) (hF : F u p = bytesOf a) (hG : F v q = bytesOf b) (hp : bytesOf c = p ++ [90]) (hq : bytesOf d = q ++ [90])
    (hu : (u = true ∧ inA (bytesOf a) ∧ p = (bytesOf a).drop 2) ∨ (u = false ∧ ¬ inA (bytesOf a) ∧ p = bytesOf a))
    (hv : (v = true ∧ inA (bytesOf b) ∧ q = (bytesOf b).drop 2) ∨ (v = false ∧ ¬ inA (bytesOf b) ∧ q = bytesOf b)) :
    (if tagOf u = tagOf v then ((when_Get.f 298 (tagOf u) c).bind fun x => (when_Get.f 298 (tagOf v) d).bind fun y => (if ((Op.bytesLess x.1.toList y.1.toList) == (Op.bytesLess a.toList b.toList)) = true then (if tagOf u = 23 then (some ((a.toList == b.toList) == (c.toList == d.toList))) else (if ((Op.bytesLess c.toList d.toList) == (Op.bytesLess a.toList b.toList)) = true then (some ((a.toList == b.toList) == (c.toList == d.toList))) else (none))) else (none)))
      else some ((Op.bytesLess a.toList b.toList) == (tagOf u == 23))) = some true := by
  have hla : (bytesOf a).length = 14 := by rw [bytesOf_length]; exact ha
  have hlb : (bytesOf b).length = 14 := by rw [bytesOf_length]; exact hb
  have hda : Digs (bytesOf a) := by rw [← hF]; exact F_digs hc.2.1.1
  have hdb : Digs (bytesOf b) := by rw [← hG]; exact F_digs hd.2.1.1
  by_cases huv : u = v
  · subst huv
    have heq : (a.toList == b.toList) = (c.toList == d.toList) := by
      rw [toList_beq, toList_beq, Bool.eq_iff_iff, beq_iff_eq, beq_iff_eq]
      constructor
      · intro h
        rcases hu with ⟨rfl, _, rfl⟩ | ⟨rfl, _, rfl⟩ <;> rcases hv with ⟨h1, _, rfl⟩ | ⟨h1, _, rfl⟩ <;> first | (cases h1; done) | (rw [hp, hq, h])
      · intro h
        rw [hp, hq] at h
        rw [← hF, ← hG, List.append_cancel_right h]
    rw [if_pos rfl, get_yes 298 (by decide) _ c u p hc, get_yes 298 (by decide) _ d u q hd]
    simp only [Option.bind_some]
    rw [hF, hG, nums_bytesOf, nums_bytesOf, if_pos (by simp), heq]
    by_cases ht : tagOf u = 23
    · rw [if_pos ht]; simp
    · rw [if_neg ht]
      have hu' : u = false := by revert ht; cases u <;> decide
      subst hu'
      have : Op.bytesLess c.toList d.toList = Op.bytesLess a.toList b.toList := by
        rw [less_bl, less_bl, hp, hq, bl_app _ _ _ (by
          rcases hu with ⟨h1, _, _⟩ | ⟨_, _, rfl⟩
          · cases h1
          rcases hv with ⟨h1, _, _⟩ | ⟨_, _, rfl⟩
          · cases h1
          rw [hla, hlb])]
        rcases hu with ⟨h1, _, _⟩ | ⟨_, _, rfl⟩
        · cases h1
        rcases hv with ⟨h1, _, _⟩ | ⟨_, _, rfl⟩
        · cases h1
        rfl
      rw [this, if_pos (by simp)]; simp
  · have ht : tagOf u ≠ tagOf v := by revert huv; cases u <;> cases v <;> decide
    rw [if_neg ht, less_bl]
    have late_ : ∀ (s : ByteArray) (r : List Int) (hr : Con (tagOf false) r false (bytesOf s)) , s.size = 14 → 2050 ≤ yr (bytesOf s) := by
      intro s r hr h14
      have hl : (bytesOf s).length = 14 := by rw [bytesOf_length]; exact h14
      exact (inB_iff hl hr.2.1.1 hr.2.1.2.1).1 hr.2.1
    cases u with
    | true =>
      have hv' : v = false := by revert huv; cases v <;> decide
      subst hv'
      rcases hu with ⟨_, hA, rfl⟩ | ⟨h1, _, _⟩
      · rcases hv with ⟨h1, _, _⟩ | ⟨_, _, rfl⟩
        · cases h1
        have hy := inA_year hA
        have hz := late_ b _ hd hb
        rw [(bl_year hda hdb (by omega) (by omega)).1 (by omega)]; rfl
      · cases h1
    | false =>
      have hv' : v = true := by revert huv; cases v <;> decide
      subst hv'
      rcases hu with ⟨h1, _, _⟩ | ⟨_, _, rfl⟩
      · cases h1
      rcases hv with ⟨_, hA, rfl⟩ | ⟨h1, _, _⟩
      · have hy := inA_year hA
        have hz := late_ a _ hc ha
        rw [(bl_year hda hdb (by omega) (by omega)).2.1 (by omega)]; rfl
      · cases h1
theorem WhenOrder (a b : ByteArray) (_ : a.size ≤ 140737488351232) (_ : b.size ≤ 140737488351232) : ∃ k, gantletlaw13_WhenOrder.f k a b = some true := by
  refine ⟨300, ?_⟩
  have aw : gantletlaw13_WhenOrder.j0 300 a b true = some true := by
    rw [gantletlaw13_WhenOrder.j0, if_pos rfl, awake_ok 299 (by decide)]; rfl
  unfold gantletlaw13_WhenOrder.f
  rw [awake_ok 300 (by decide)]
  simp only [Option.bind_some, if_true]
  by_cases h : (a.size : Int) > 100
  · rw [if_pos h, aw]
  rw [if_neg h]
  by_cases h2 : (b.size : Int) > 100
  · rw [show decide ((b.size : Int) > 100) = true by simpa using h2, aw]
  rw [show decide ((b.size : Int) > 100) = false by simpa using h2, gantletlaw13_WhenOrder.j0, if_neg (by decide)]
  rcases put_cases 299 (by decide) a with ⟨u, c, p, e, hs, hc, hF, hp, hu⟩ | ⟨e, _, _⟩
  · rcases put_cases 299 (by decide) b with ⟨v, d, q, e2, hs2, hd, hG, hq, hv⟩ | ⟨e2, _, _⟩
    · rw [e, e2]
      simp only [Option.bind_some, if_true, Bool.not_true]
      rw [gantletlaw13_WhenOrder.j1, if_neg (by decide)]
      exact two_cases a b u v c d p q hs hs2 hc hd hF hG hp hq hu hv
    · rw [e, e2]
      simp only [Option.bind_some, if_true, Bool.not_false]
      rw [gantletlaw13_WhenOrder.j1, if_pos rfl]
  · rw [e]
    rcases put_cases 299 (by decide) b with ⟨v, d, q, e2, hs2, hd, hG, hq, hv⟩ | ⟨e2, _, _⟩
    · rw [e2]
      simp only [Option.bind_some]
      rw [if_neg (by decide), gantletlaw13_WhenOrder.j1, if_pos rfl]
    · rw [e2]
      simp only [Option.bind_some]
      rw [if_neg (by decide), gantletlaw13_WhenOrder.j1, if_pos rfl]
end Go.Proofs.Ytailnnjkbiihmaa.Pure
