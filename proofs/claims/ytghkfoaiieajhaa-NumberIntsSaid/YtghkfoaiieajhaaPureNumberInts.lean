/- The plain law of NumberInts: both texts put and get the same. -/
import Derived.Test.YtghkfoaiieajhaaRNum
import Derived.Test.YtghkfoaiieajhaaPAx6
namespace Go.Proofs.Ytghkfoaiieajhaa.Pure
open Go.RowKit Go.Proofs.Ytghkfoaiieajhaa.PA Go.Proofs.YtghkfoaiieajhaaW.PrintWords Go.Proofs.YtghkfoaiieajhaaW.PrintLast Go.Proofs.YtghkfoaiieajhaaW.PrintMore
open Go.Proofs.Ytghkfoaiieajhaa.Bs Go.Proofs.Ytghkfoaiieajhaa.BNum Go.Proofs.Ytghkfoaiieajhaa.RNum

theorem NumberInts (n : Int) (c : ByteArray) (hn : (Lit.int .i64 n).wf = true) (_ : c.size ≤ 140737488351232) : ∃ k, gantletlaw10_NumberInts.f k n c = some true := by
  refine ⟨3000, ?_⟩
  unfold gantletlaw10_NumberInts.f
  rw [awake_ok 3000 (by decide)]
  simp only [Option.bind_some, if_true]
  by_cases h : (c.size : Int) > 100
  · rw [show decide ((c.size : Int) > 100) = true by simpa using h]
    rw [gantletlaw10_NumberInts.j0, if_pos rfl, awake_ok 2999 (by decide)]; rfl
  · rw [show decide ((c.size : Int) > 100) = false by simpa using h]
    rw [gantletlaw10_NumberInts.j0, if_neg (by decide), get_ok c 2999 (by omega) (by decide), rget_ok c 2999 (by omega) (by decide), put_ok 2991 n (wf64 hn), rput_ok 2991 n (wf64 hn)]
    simp
end Go.Proofs.Ytghkfoaiieajhaa.Pure
