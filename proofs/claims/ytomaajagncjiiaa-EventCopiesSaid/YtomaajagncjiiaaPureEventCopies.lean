/- The plain law of EventCopies: the walk has shown it true. -/
import Derived.Test.YtomaajagncjiiaaZCm
namespace Go.Proofs.Ytomaajagncjiiaa.Pure
open Go.Proofs.Ytomaajagncjiiaa.PC
theorem EventCopies (a0 a1 : ByteArray) (a2 : Int) (_ : a0.size ≤ 140737488351232) (_ : a1.size ≤ 140737488351232) (_ : (Lit.int .i64 a2).wf = true) : gantletlaw09_EventCopies.f a0 a1 a2 = some true := rfl
end Go.Proofs.Ytomaajagncjiiaa.Pure
