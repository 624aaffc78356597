/- The plain law of IdentGets: both texts get the same head, place and error. -/
import Derived.Test.YtiohngikhchgeaaRId
import Derived.Test.YtiohngikhchgeaaAId
import Derived.Test.YtiohngikhchgeaaPAx6
namespace Go.Proofs.Ytiohngikhchgeaa.Pure
open Go.RowKit Go.Proofs.Ytiohngikhchgeaa.PA Go.Proofs.YtiohngikhchgeaaW.PrintWords Go.Proofs.YtiohngikhchgeaaW.PrintLast Go.Proofs.YtiohngikhchgeaaW.PrintMore
open Go.Proofs.Ytiohngikhchgeaa.Idm Go.Proofs.Ytiohngikhchgeaa.BId Go.Proofs.Ytiohngikhchgeaa.RId Go.Proofs.Ytiohngikhchgeaa.AId

theorem IdentGets (s : ByteArray) (at_ : Int) (hs : s.size ≤ 140737488351232) (_ : (Lit.int .i64 at_).wf = true) :
    ∃ k, gantletlaw05_IdentGets.f k s at_ = some true := by
  refine ⟨500, ?_⟩
  unfold gantletlaw05_IdentGets.f
  rw [awake_ok 500 (by decide)]
  simp only [Option.bind_some, if_true]
  by_cases h : (s.size : Int) > 200
  · rw [show decide ((s.size : Int) > 200) = true by simpa using h]
    simp only [gantletlaw05_IdentGets.j0, if_true]
    rw [awake_ok 499 (by decide)]; rfl
  · rw [show decide ((s.size : Int) > 200) = false by simpa using h]
    simp only [gantletlaw05_IdentGets.j0, Bool.false_eq_true, if_false]
    by_cases ha : at_ < 0 ∨ at_ > s.size
    · rw [get_arg s at_ ha 498, rget_arg s at_ ha 498]; simp
    · rw [get_ok s (by omega) at_ (by omega) (by omega) 499 (by omega), rget_ok s (by omega) at_ (by omega) (by omega) 499 (by omega)]; simp
end Go.Proofs.Ytiohngikhchgeaa.Pure
