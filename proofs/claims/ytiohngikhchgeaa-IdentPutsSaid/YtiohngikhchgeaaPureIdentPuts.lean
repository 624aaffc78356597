/- The plain law of IdentPuts: both texts put the same bytes, or none. -/
import Derived.Test.YtiohngikhchgeaaRId
import Derived.Test.YtiohngikhchgeaaAId
import Derived.Test.YtiohngikhchgeaaPAx5
namespace Go.Proofs.Ytiohngikhchgeaa.Pure
open Go.RowKit Go.Proofs.Ytiohngikhchgeaa.PA Go.Proofs.YtiohngikhchgeaaW.PrintWords Go.Proofs.YtiohngikhchgeaaW.PrintLast Go.Proofs.YtiohngikhchgeaaW.PrintMore
open Go.Proofs.Ytiohngikhchgeaa.Idm Go.Proofs.Ytiohngikhchgeaa.BId Go.Proofs.Ytiohngikhchgeaa.RId Go.Proofs.Ytiohngikhchgeaa.AId

theorem IdentPuts (c t : Int) (cons : Bool) (l : Int) (_ : (Lit.int .i64 c).wf = true) (_ : (Lit.int .i64 t).wf = true) (_ : (Lit.int .i64 l).wf = true) :
    ∃ k, gantletlaw05_IdentPuts.f k c t cons l = some true := by
  refine ⟨30, ?_⟩
  unfold gantletlaw05_IdentPuts.f
  rw [awake_ok 30 (by decide)]
  by_cases h : Valid c t
  · rw [put_ok 22 cons l h, rput_ok 21 cons l h]; simp
  · rw [put_bad 29 cons l h, rput_bad 29 cons l h]; simp
end Go.Proofs.Ytiohngikhchgeaa.Pure
