/- The plain law of HeadGets: both texts get the same head, place and error. -/
import Derived.Test.YthmgabfhibkaiaaBHd
import Derived.Lib.Bytes
import Derived.Test.YthmgabfhibkaiaaPAx15
namespace Go.Proofs.Ythmgabfhibkaiaa.Pure
open Go.RowKit Go.Proofs.Ythmgabfhibkaiaa.PA Go.Proofs.YthmgabfhibkaiaaW.PrintWords Go.Proofs.YthmgabfhibkaiaaW.PrintLast Go.Proofs.YthmgabfhibkaiaaW.PrintMore
open Go.Proofs.Ythmgabfhibkaiaa.Idm Go.Proofs.Ythmgabfhibkaiaa.Lenm Go.Proofs.Ythmgabfhibkaiaa.Hdm Go.Proofs.Ythmgabfhibkaiaa.BId Go.Proofs.Ythmgabfhibkaiaa.BLen Go.Proofs.Ythmgabfhibkaiaa.BHd
set_option linter.unusedVariables false

theorem HeadGets (s : ByteArray) (at_ : Int) (hs : s.size ≤ 140737488351232) (_ : (Lit.int .i64 at_).wf = true) :
    ∃ k, gantletlaw07_HeadGets.f k s at_ = some true := by
  refine ⟨2 * s.size + 40, ?_⟩
  unfold gantletlaw07_HeadGets.f gantletlaw07_awake.f
  simp only [Option.bind_some, if_true]
  by_cases h : (s.size : Int) > 300
  · rw [show decide ((s.size : Int) > 300) = true by simpa using h]
    simp only [gantletlaw07_HeadGets.j0, if_true]
    rfl
  · rw [show decide ((s.size : Int) > 300) = false by simpa using h]
    simp only [gantletlaw07_HeadGets.j0, Bool.false_eq_true, if_false]
    by_cases ha : at_ < 0 ∨ at_ > s.size
    · rw [hget_arg s at_ ha (2 * s.size + 38), rhget_arg s at_ ha (2 * s.size + 38)]; simp
    · rw [hget_ok s (by omega) at_ (by omega) (by omega) _ (by omega), rhget_ok s (by omega) at_ (by omega) (by omega) _ (by omega)]; simp
end Go.Proofs.Ythmgabfhibkaiaa.Pure
