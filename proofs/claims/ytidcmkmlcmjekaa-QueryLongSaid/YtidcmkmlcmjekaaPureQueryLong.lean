/- The plain law of QueryLong: the walk has shown it true. Conditions: texts of at most 140737488351232 bytes, as the row has them. -/
import Derived.Test.YtidcmkmlcmjekaaZB
namespace Go.Proofs.Ytidcmkmlcmjekaa.Pure
open Go.Proofs.Ytidcmkmlcmjekaa.PA
theorem QueryLong (a0 a1 : ByteArray) (h0 : a0.size ≤ 140737488351232) (h1 : a1.size ≤ 140737488351232) : gantletlaw18_QueryLong.f a0 a1 = some true := by
  unfold gantletlaw18_QueryLong.f
  rw [if_pos ⟨h0, h1⟩]
end Go.Proofs.Ytidcmkmlcmjekaa.Pure
