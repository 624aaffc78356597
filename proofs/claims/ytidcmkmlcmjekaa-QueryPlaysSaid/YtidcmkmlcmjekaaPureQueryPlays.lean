/- The plain law of QueryPlays: the walk has shown it true. -/
import Derived.Test.YtidcmkmlcmjekaaZH
namespace Go.Proofs.Ytidcmkmlcmjekaa.Pure
open Go.Proofs.Ytidcmkmlcmjekaa.PA
theorem QueryPlays (l : List ByteArray) (a : List S37) (_ : l.length * 16 ≤ 140737488351232) (_ : a.length * 24 ≤ 140737488351232) : gantletlaw18_QueryPlays.f l a = some true := rfl
end Go.Proofs.Ytidcmkmlcmjekaa.Pure
