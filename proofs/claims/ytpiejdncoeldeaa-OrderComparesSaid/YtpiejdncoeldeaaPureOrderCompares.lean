/- The plain law of OrderCompares: two elements are held against each other as the document says. -/
import Derived.Test.YtpiejdncoeldeaaBOrd
import Derived.Test.YtpiejdncoeldeaaPBx1
namespace Go.Proofs.Ytpiejdncoeldeaa.Pure
open Go.RowKit Go.Proofs.Ytpiejdncoeldeaa.PB Go.Proofs.YtpiejdncoeldeaaW.PrintWords Go.Proofs.YtpiejdncoeldeaaW.PrintLast Go.Proofs.YtpiejdncoeldeaaW.PrintMore
open Go.Proofs.Ytpiejdncoeldeaa.Bs Go.Proofs.Ytpiejdncoeldeaa.Ord Go.Proofs.Ytpiejdncoeldeaa.BOrd
set_option linter.unusedVariables false

theorem OrderCompares (a b : ByteArray) (_ : a.size ≤ 140737488351232) (_ : b.size ≤ 140737488351232) : ∃ k, gantletlaw16_OrderCompares.f k a b = some true := by
  refine ⟨2001, ?_⟩
  have aw : gantletlaw16_OrderCompares.j0 2001 a b true = some true := rfl
  unfold gantletlaw16_OrderCompares.f gantletlaw16_awake.f
  simp only [Option.bind_some, if_true]
  by_cases h1 : (a.size : Int) > 300
  · rw [if_pos h1, aw]
  rw [if_neg h1]
  by_cases h2 : (b.size : Int) > 300
  · rw [show decide ((b.size : Int) > 300) = true by simpa using h2, aw]
  rw [show decide ((b.size : Int) > 300) = false by simpa using h2]
  obtain ⟨x, ex, hx⟩ := cmp_eq a b (by omega) (by omega) 2000 (by omega)
  obtain ⟨y, ey, hy⟩ := ref_eq a b (by omega) (by omega) 2000 (by omega)
  obtain ⟨z, ez, hz⟩ := cmp_eq b a (by omega) (by omega) 2000 (by omega)
  have hs : (a ++ (⟨#[0]⟩ : ByteArray)).size ≤ 500 := by rw [ByteArray.size_append]; show a.size + 1 ≤ 500; omega
  obtain ⟨t, et, ht⟩ := cmp_eq (a ++ (⟨#[0]⟩ : ByteArray)) b hs (by omega) 2000 (by omega)
  rw [bytesOf_append, nul, seq_zero] at ht
  have e1 := hx.uniq hy
  have e2 := hz.uniq hx.swap
  have e3 := ht.uniq hx
  have hr := hx.range
  rw [gantletlaw16_OrderCompares.j0, if_neg (by decide), ex, ey, ez, et]
  simp only [Option.bind_some]
  rw [if_pos e1, w64 (by omega) (by omega), if_pos e2, if_pos (by omega), e3]
  simp
end Go.Proofs.Ytpiejdncoeldeaa.Pure
