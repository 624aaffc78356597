/- The plain law of OrderThird: what doesn't come behind one that doesn't come behind a third doesn't come behind that. -/
import Derived.Test.YtpiejdncoeldeaaBOrd
import Derived.Test.YtpiejdncoeldeaaPBx2
namespace Go.Proofs.Ytpiejdncoeldeaa.Pure
open Go.RowKit Go.Proofs.Ytpiejdncoeldeaa.PB Go.Proofs.YtpiejdncoeldeaaW.PrintWords Go.Proofs.YtpiejdncoeldeaaW.PrintLast Go.Proofs.YtpiejdncoeldeaaW.PrintMore
open Go.Proofs.Ytpiejdncoeldeaa.Bs Go.Proofs.Ytpiejdncoeldeaa.Ord Go.Proofs.Ytpiejdncoeldeaa.BOrd
set_option linter.unusedVariables false

theorem OrderThird (a b c : ByteArray) (_ : a.size ≤ 140737488351232) (_ : b.size ≤ 140737488351232) (_ : c.size ≤ 140737488351232) : ∃ k, gantletlaw16_OrderThird.f k a b c = some true := by
  refine ⟨2001, ?_⟩
  have aw : gantletlaw16_OrderThird.j0 2001 a b c true = some true := rfl
  unfold gantletlaw16_OrderThird.f gantletlaw16_awake.f
  simp only [Option.bind_some, if_true]
  by_cases h1 : (a.size : Int) > 300
  · rw [if_pos h1, aw]
  rw [if_neg h1]
  by_cases h2 : (b.size : Int) > 300
  · rw [if_pos h2, aw]
  rw [if_neg h2]
  by_cases h3 : (c.size : Int) > 300
  · rw [show decide ((c.size : Int) > 300) = true by simpa using h3, aw]
  rw [show decide ((c.size : Int) > 300) = false by simpa using h3]
  obtain ⟨x, ex, hx⟩ := cmp_eq a b (by omega) (by omega) 2000 (by omega)
  obtain ⟨y, ey, hy⟩ := cmp_eq b c (by omega) (by omega) 2000 (by omega)
  obtain ⟨z, ez, hz⟩ := cmp_eq a c (by omega) (by omega) 2000 (by omega)
  obtain ⟨t, et, ht⟩ := cmp_eq a a (by omega) (by omega) 2000 (by omega)
  have h0 := ht.uniq (Cmp.refl _)
  subst h0
  obtain ⟨g1, g2⟩ := hx.third hy hz
  rw [gantletlaw16_OrderThird.j0, if_neg (by decide), ex, ey, ez, et]
  simp only [Option.bind_some]
  have fin : (if x = 0 then (if y = z then some ((0 : Int) == 0) else none) else some ((0 : Int) == 0)) = some true := by
    by_cases hx0 : x = 0
    · rw [if_pos hx0, if_pos (by omega)]; rfl
    · rw [if_neg hx0]; rfl
  by_cases q1 : x > 0
  · rw [if_pos q1]; exact fin
  rw [if_neg q1]
  by_cases q2 : y > 0
  · rw [if_pos q2]; exact fin
  rw [if_neg q2, if_pos (by omega)]; exact fin
end Go.Proofs.Ytpiejdncoeldeaa.Pure
