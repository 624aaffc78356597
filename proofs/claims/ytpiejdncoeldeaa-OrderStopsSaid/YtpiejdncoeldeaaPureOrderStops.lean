/- The plain law of OrderStops: the walk has shown it true. -/
import Derived.Test.YtpiejdncoeldeaaZO
namespace Go.Proofs.Ytpiejdncoeldeaa.Pure
open Go.RowKit Go.Proofs.Ytpiejdncoeldeaa.PA
theorem OrderStops (l : List ByteArray) (most : Int) (_ : l.length * 16 ≤ 140737488351232) (_ : (Lit.int .i64 most).wf = true) : gantletlaw16_OrderStops.f l most = some true := rfl
end Go.Proofs.Ytpiejdncoeldeaa.Pure
