/- The plain law of EventWhole: the walk has shown it true. -/
import Derived.Test.YtomaajagncjiiaaZL
namespace Go.Proofs.Ytomaajagncjiiaa.Pure
open Go.Proofs.Ytomaajagncjiiaa.PC
theorem EventWhole (a0 : ByteArray) (a1 : Int) (_ : a0.size ≤ 140737488351232) (_ : (Lit.int .i64 a1).wf = true) : gantletlaw09_EventWhole.f a0 a1 = some true := rfl
end Go.Proofs.Ytomaajagncjiiaa.Pure
