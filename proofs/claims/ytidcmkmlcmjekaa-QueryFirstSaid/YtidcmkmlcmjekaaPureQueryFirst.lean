/- The plain law of QueryFirst: the walk has shown it true. Conditions: sizes as the row has them. -/
import Derived.Test.YtidcmkmlcmjekaaZF
namespace Go.Proofs.Ytidcmkmlcmjekaa.Pure
open Go.Proofs.Ytidcmkmlcmjekaa.PA
theorem QueryFirst (l : List ByteArray) (s a : ByteArray) (h0 : l.length * 16 ≤ 140737488351232) (_ : s.size ≤ 140737488351232) (h2 : a.size ≤ 140737488351232) : gantletlaw18_QueryFirst.f l s a = some true := by
  unfold gantletlaw18_QueryFirst.f
  rw [if_pos ⟨h0, h2⟩]
end Go.Proofs.Ytidcmkmlcmjekaa.Pure
