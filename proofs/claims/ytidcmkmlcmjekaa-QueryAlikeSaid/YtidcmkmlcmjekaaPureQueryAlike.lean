/- The plain law of QueryAlike: the walk has shown it true. -/
import Derived.Test.YtidcmkmlcmjekaaZE
namespace Go.Proofs.Ytidcmkmlcmjekaa.Pure
open Go.Proofs.Ytidcmkmlcmjekaa.PA
theorem QueryAlike (l : List ByteArray) (a : List S37) (_ : l.length * 16 ≤ 140737488351232) (_ : a.length * 24 ≤ 140737488351232) : gantletlaw18_QueryAlike.f l a = some true := rfl
end Go.Proofs.Ytidcmkmlcmjekaa.Pure
