/- The plain law of WhenBack: a date that is put is got as it was. -/
import Derived.Test.YtailnnjkbiihmaaHDat
import Derived.Test.YtailnnjkbiihmaaPAx7
namespace Go.Proofs.Ytailnnjkbiihmaa.Pure
open Go.RowKit Go.Proofs.Ytailnnjkbiihmaa.PA Go.Proofs.YtailnnjkbiihmaaW.PrintWords Go.Proofs.YtailnnjkbiihmaaW.PrintLast Go.Proofs.YtailnnjkbiihmaaW.PrintMore
open Go.Proofs.Ytailnnjkbiihmaa.Bs Go.Proofs.Ytailnnjkbiihmaa.BDat Go.Proofs.Ytailnnjkbiihmaa.Dt
set_option linter.unusedVariables false

theorem WhenBack (s : ByteArray) (_ : s.size ≤ 140737488351232) : ∃ k, gantletlaw13_WhenBack.f k s = some true := by
  refine ⟨300, ?_⟩
  unfold gantletlaw13_WhenBack.f
  rw [awake_ok 300 (by decide)]
  simp only [Option.bind_some, if_true]
  rw [gantletlaw13_WhenBack.j0]
  by_cases h : decide ((s.size : Int) > 100) = true
  · rw [if_pos h, awake_ok 299 (by decide)]; rfl
  rw [if_neg h]
  rcases put_cases 299 (by decide) s with ⟨u, c, p, e, hs, hc, hF, _, _⟩ | ⟨e, _, _⟩
  · rw [e]
    simp only [Option.bind_some, if_true]
    rw [get_yes 299 (by decide) (tagOf u) c u p hc]
    simp only [Option.bind_some, if_true]
    rw [hF, nums_bytesOf]; simp
  · rw [e]; rfl
end Go.Proofs.Ytailnnjkbiihmaa.Pure
