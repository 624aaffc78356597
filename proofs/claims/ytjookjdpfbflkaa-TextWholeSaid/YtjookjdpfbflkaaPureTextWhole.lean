/- The plain law of TextWhole: a content is right, or not, as the document says. -/
import Derived.Test.YtjookjdpfbflkaaRTxt
import Derived.Test.YtjookjdpfbflkaaPAx6
namespace Go.Proofs.Ytjookjdpfbflkaa.Pure
open Go.RowKit Go.Proofs.Ytjookjdpfbflkaa.PA Go.Proofs.YtjookjdpfbflkaaW.PrintWords Go.Proofs.YtjookjdpfbflkaaW.PrintLast Go.Proofs.YtjookjdpfbflkaaW.PrintMore
open Go.Proofs.Ytjookjdpfbflkaa.Bs Go.Proofs.Ytjookjdpfbflkaa.BTxt Go.Proofs.Ytjookjdpfbflkaa.RTxt
open Go.Proofs.Ytjookjdpfbflkaa.Tx (run st0 can)
set_option linter.unusedVariables false

theorem TextWhole (tag : Int) (s : ByteArray) (ht : (Lit.int .i64 tag).wf = true) (_ : s.size ≤ 140737488351232) : ∃ k, gantletlaw14_TextWhole.f k tag s = some true := by
  refine ⟨3000, ?_⟩
  unfold gantletlaw14_TextWhole.f
  rw [awake_ok 3000 (by decide)]
  simp only [Option.bind_some, if_true]
  by_cases h : (s.size : Int) > 500
  · rw [show decide ((s.size : Int) > 500) = true by simpa using h, gantletlaw14_TextWhole.j0, if_pos rfl, awake_ok 2999 (by decide)]; rfl
  · rw [show decide ((s.size : Int) > 500) = false by simpa using h, gantletlaw14_TextWhole.j0, if_neg (by decide), check_eq tag s (by omega) 2999 (by omega), rcheck_eq tag s (by omega) 2999 (by omega)]
    simp
end Go.Proofs.Ytjookjdpfbflkaa.Pure
