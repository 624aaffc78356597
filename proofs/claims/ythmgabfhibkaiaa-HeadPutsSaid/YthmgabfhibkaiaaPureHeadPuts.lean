/- The plain law of HeadPuts: both texts put the same bytes, or none. -/
import Derived.Test.YthmgabfhibkaiaaBHd
import Derived.Lib.Bytes
import Derived.Test.YthmgabfhibkaiaaPAx11
namespace Go.Proofs.Ythmgabfhibkaiaa.Pure
open Go.RowKit Go.Proofs.Ythmgabfhibkaiaa.PA Go.Proofs.YthmgabfhibkaiaaW.PrintWords Go.Proofs.YthmgabfhibkaiaaW.PrintLast Go.Proofs.YthmgabfhibkaiaaW.PrintMore
open Go.Proofs.Ythmgabfhibkaiaa.Idm Go.Proofs.Ythmgabfhibkaiaa.Lenm Go.Proofs.Ythmgabfhibkaiaa.Hdm Go.Proofs.Ythmgabfhibkaiaa.BId Go.Proofs.Ythmgabfhibkaiaa.BLen Go.Proofs.Ythmgabfhibkaiaa.BHd
set_option linter.unusedVariables false

theorem HeadPuts (c t : Int) (cons : Bool) (n : Int) (_ : (Lit.int .i64 c).wf = true) (_ : (Lit.int .i64 t).wf = true) (_ : (Lit.int .i64 n).wf = true) :
    ∃ k, gantletlaw07_HeadPuts.f k c t cons n = some true := by
  refine ⟨30, ?_⟩
  unfold gantletlaw07_HeadPuts.f gantletlaw07_awake.f
  by_cases h : Whole c t n
  · rw [hput_ok 30 cons h (by decide), rhput_ok 30 cons h (by decide)]; simp
  · rw [hput_bad 30 cons h (by decide), rhput_bad 30 cons h (by decide)]; simp
end Go.Proofs.Ythmgabfhibkaiaa.Pure
