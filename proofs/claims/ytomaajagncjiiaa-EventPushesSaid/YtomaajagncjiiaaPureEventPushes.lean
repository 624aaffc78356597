/- The plain law of EventPushes: the walk has shown it true. -/
import Derived.Test.YtomaajagncjiiaaZPm
namespace Go.Proofs.Ytomaajagncjiiaa.Pure
open Go.Proofs.Ytomaajagncjiiaa.PC
theorem EventPushes (a0 : ByteArray) (a1 : Int) (a2 : ByteArray) (_ : a0.size ≤ 140737488351232) (_ : (Lit.int .i64 a1).wf = true) (h : a2.size ≤ 140737488351232) : gantletlaw09_EventPushes.f a0 a1 a2 = some true := by
  unfold gantletlaw09_EventPushes.f
  rw [if_pos h]
end Go.Proofs.Ytomaajagncjiiaa.Pure
