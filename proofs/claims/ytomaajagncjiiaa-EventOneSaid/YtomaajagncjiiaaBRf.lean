/- What the printed functions of the reference for heads come to: the plain law's functions. -/
import Derived.Test.YtomaajagncjiiaaRId
import Derived.Test.YtomaajagncjiiaaBHd
import Derived.Test.YtomaajagncjiiaaBLr
import Derived.Test.YtomaajagncjiiaaPBx10
namespace Go.Proofs.Ytomaajagncjiiaa.BHd
open Go.RowKit Go.Proofs.Ytomaajagncjiiaa.PB Go.Proofs.YtomaajagncjiiaaW.PrintWords Go.Proofs.YtomaajagncjiiaaW.PrintLast Go.Proofs.YtomaajagncjiiaaW.PrintMore
open Go.Proofs.Ytomaajagncjiiaa.Idm Go.Proofs.Ytomaajagncjiiaa.Lenm Go.Proofs.Ytomaajagncjiiaa.Hdm Go.Proofs.Ytomaajagncjiiaa.BId Go.Proofs.Ytomaajagncjiiaa.BLen Go.Proofs.Ytomaajagncjiiaa.RId
set_option linter.unusedVariables false

theorem rhput_ok (k : Nat) {c t n : Int} (cons : Bool) (h : Whole c t n) (hk : 20 ≤ k) : gantletref07_Put.f k c t cons n = some (strOfNums (hdenc c t cons n), 0) := by
  obtain ⟨m, rfl⟩ : ∃ m, k = m + 9 := ⟨k - 9, by omega⟩
  have hl := hdenc_len cons h
  unfold gantletref07_Put.f
  rw [rput_ok m cons n h.1, Option.bind_some]
  simp only [if_true]
  rw [rlput_ok (m + 9) n h.2.1 h.2.2 (by omega), Option.bind_some]
  simp only [if_true]
  rw [if_pos (by rw [strOfNums_size, strOfNums_size]; omega), strOf_append]
  rfl
theorem rhput_bad (k : Nat) {c t n : Int} (cons : Bool) (h : ¬ Whole c t n) (hk : 20 ≤ k) : gantletref07_Put.f k c t cons n = some (⟨#[]⟩, 1) := by
  obtain ⟨m, rfl⟩ : ∃ m, k = m + 9 := ⟨k - 9, by omega⟩
  unfold gantletref07_Put.f
  by_cases hv : Valid c t
  · rw [rput_ok m cons n hv, Option.bind_some]
    simp only [if_true]
    rw [rlput_bad (m + 8) n (fun hn => h ⟨hv, hn.1, hn.2⟩), Option.bind_some]
    simp
  · rw [rput_bad (m + 8) cons n hv, Option.bind_some]
    simp

end Go.Proofs.Ytomaajagncjiiaa.BHd
