/- The plain law of QueryNew: the walk has shown it true. -/
import Derived.Test.YtidcmkmlcmjekaaZC
namespace Go.Proofs.Ytidcmkmlcmjekaa.Pure
open Go.Proofs.Ytidcmkmlcmjekaa.PA
theorem QueryNew (l : List ByteArray) (_ : l.length * 16 ≤ 140737488351232) : gantletlaw18_QueryNew.f l = some true := rfl
end Go.Proofs.Ytidcmkmlcmjekaa.Pure
