/- The plain law of EventEnds: a whole element, cut off anywhere, is cut off; with anything behind it is told at its end that there is more. -/
import Derived.Test.YtomaajagncjiiaaMEv
import Derived.Lib.Bytes
import Derived.Test.YtomaajagncjiiaaPBx12
namespace Go.Proofs.Ytomaajagncjiiaa.Pure
open Go.RowKit Go.Proofs.Ytomaajagncjiiaa.PB Go.Proofs.YtomaajagncjiiaaW.PrintWords Go.Proofs.YtomaajagncjiiaaW.PrintLast Go.Proofs.YtomaajagncjiiaaW.PrintMore
set_option linter.unusedVariables false

theorem ends_whole (s : ByteArray) (h : s.size ≤ 700) : event_Whole.f s 64 = some (wholeM 64 (bytesOf s)) := by
  unfold event_Whole.f
  rw [if_pos h, show (mn (mx 64 0) 64).toNat = 64 by decide]
/-- A whole element: its beginnings, and what is longer. -/
theorem ends_run (l m : List Int) (hb : Idm.Bytes l) (h : (wholeM 64 l).2.1 = 0) : (m ≠ [] → (wholeM 64 (l ++ m)).2 = (6, (l.length : Int))) ∧ ∀ n, n < l.length → (wholeM 64 (l.take n)).2 = (2, (n : Int)) := by
  constructor
  · intro hm
    have hw := run_split 64 l m init0 0 [] hb (inv0 64)
    unfold wholeM at h ⊢
    rcases hw with ⟨s', xs, c1, c2, c3, c4, c5⟩ | ⟨xs, e, j, c0, c1, c2, c3, c4, c5, c6⟩
    · rw [show (0 : Int) = ((0 : Nat) : Int) from rfl] at h ⊢
      rw [c4] at h
      have hd : done s' = true := by
        by_cases hd : done s' = true
        · exact hd
        · simp only [if_neg hd] at h; exact absurd h (by decide)
      rw [c5]
      cases m with
      | nil => exact absurd rfl hm
      | cons b r => rw [run_more 64 s' hd c1.over]; simp
    · rw [show (0 : Int) = ((0 : Nat) : Int) from rfl] at h
      rw [c5] at h
      exact absurd h c0
  · intro n hn
    have hbt : Idm.Bytes (l.take n) := fun x hx => hb x (List.mem_of_mem_take hx)
    have hw := run_split 64 (l.take n) (l.drop n) init0 0 [] hbt (inv0 64)
    have htk : (l.take n).length = n := by rw [List.length_take]; omega
    rw [List.take_append_drop, htk] at hw
    unfold wholeM at h ⊢
    rw [show (0 : Int) = ((0 : Nat) : Int) from rfl] at h ⊢
    rcases hw with ⟨s', xs, c1, c2, c3, c4, c5⟩ | ⟨xs, e, j, c0, c1, c2, c3, c4, c5, c6⟩
    · rw [c4]
      by_cases hd : done s' = true
      · rw [c5] at h
        cases hdr : l.drop n with
        | nil => have := congrArg List.length hdr; rw [List.length_drop] at this; simp at this; omega
        | cons b r =>
          rw [hdr, run_more 64 s' hd c1.over] at h
          exact absurd (show (6 : Int) = 0 from h) (by decide)
      · simp [hd]
    · rw [c6] at h
      exact absurd h c0
theorem EventEnds (a0 : ByteArray) (a1 : Int) (a2 : ByteArray) (_ : a0.size ≤ 140737488351232) (_ : (Lit.int .i64 a1).wf = true) (_ : a2.size ≤ 140737488351232) : ∃ k, gantletlaw09_EventEnds.f k a0 a1 a2 = some true := by
  refine ⟨102, ?_⟩
  unfold gantletlaw09_EventEnds.f gantletlaw09_great.f
  rw [awake_ok _ (by decide), Option.bind_some, if_pos rfl, Option.bind_some]
  have hj : gantletlaw09_EventEnds.j0 102 a0 a1 a2 true = some true := by
    simp only [gantletlaw09_EventEnds.j0, if_true]
    rw [awake_ok _ (by decide), Option.bind_some]
  by_cases h1 : (a0.size : Int) > 300
  · rw [if_pos (by simpa using h1)]; exact hj
  rw [if_neg (by simpa using h1), Option.bind_some]
  by_cases h2 : (a2.size : Int) > 300
  · rw [show decide ((a2.size : Int) > 300) = true from decide_eq_true h2]; exact hj
  rw [show decide ((a2.size : Int) > 300) = false from decide_eq_false h2]
  simp only [gantletlaw09_EventEnds.j0, Bool.false_eq_true, if_false]
  rw [ends_whole a0 (by omega), Option.bind_some]
  by_cases h3 : (wholeM 64 (bytesOf a0)).2.1 = 0
  · have hr := ends_run (bytesOf a0) (bytesOf a2) (Bs.bytes_of a0) h3
    rw [bytesOf_length] at hr
    rw [if_pos h3, if_pos (by omega), ends_whole (a0 ++ a2) (by rw [ByteArray.size_append]; omega), Option.bind_some, Bs.bytesOf_append]
    have hj1 : gantletlaw09_EventEnds.j1 101 a0 a1 false = some true := by
      simp only [gantletlaw09_EventEnds.j1, Bool.false_eq_true, if_false]
      by_cases h4 : a1 < 0
      · rw [if_pos h4]
      rw [if_neg h4]
      by_cases h5 : a1 ≥ (a0.size : Int)
      · rw [if_pos h5]
      rw [if_neg h5, if_pos (by omega), if_pos (by omega), ends_whole _ (by rw [ByteArray.size_extract]; omega), Option.bind_some, Bs.bytesOf_front, hr.2 a1.toNat (by omega), if_pos rfl]
      simp; omega
    by_cases h6 : a2.toList = ([] : List UInt8)
    · rw [if_pos h6]; exact hj1
    · rw [if_neg h6, hr.1 (fun h => h6 ?_), if_pos rfl]
      · simpa using hj1
      · have hz : a2.size = 0 := by rw [← bytesOf_length, h]; rfl
        have : bytesOf a2 = bytesOf (⟨#[]⟩ : ByteArray) := by rw [h]; rfl
        rw [Bs.bytesOf_inj this, Lib.toList_data]
  · rw [if_neg h3]
end Go.Proofs.Ytomaajagncjiiaa.Pure
