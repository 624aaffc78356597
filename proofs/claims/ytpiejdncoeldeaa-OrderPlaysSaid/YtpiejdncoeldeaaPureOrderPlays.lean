/- The plain law of OrderPlays: the walk has shown it true, of any bytes. -/
import Derived.Test.YtpiejdncoeldeaaPl
namespace Go.Proofs.Ytpiejdncoeldeaa.Pure
open Go.RowKit Go.Proofs.Ytpiejdncoeldeaa.PA Go.Proofs.Ytpiejdncoeldeaa.BRow
theorem OrderPlays (a0 : Int) (a1 : List SAct) (_ : (Lit.int .i64 a0).wf = true) (h : a1.length * 16 ≤ 140737488351232 ∧ ∀ a, a ∈ a1 → 0 ≤ a.f1 ∧ a.f1 < 256) : gantletlaw16_OrderPlays.f a0 a1 = some true := if_pos h.2
end Go.Proofs.Ytpiejdncoeldeaa.Pure
