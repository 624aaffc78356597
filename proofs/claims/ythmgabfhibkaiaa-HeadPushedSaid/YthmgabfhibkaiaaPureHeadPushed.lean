/- The plain law of HeadPushed: the walk has shown it true. -/
import Derived.Test.YthmgabfhibkaiaaLPu
namespace Go.Proofs.Ythmgabfhibkaiaa.Pure
open Go.Proofs.Ythmgabfhibkaiaa.PB
theorem HeadPushed (a0 : ByteArray) (h : a0.size ≤ 140737488351232) : gantletlaw07_HeadPushed.f a0 = some true := by
  unfold gantletlaw07_HeadPushed.f
  rw [if_pos h]
end Go.Proofs.Ythmgabfhibkaiaa.Pure
