/- What the printed functions of the reference for heads come to: the plain law's functions. -/
import Derived.Test.YtomaajagncjiiaaRId
import Derived.Test.YtomaajagncjiiaaBHd
import Derived.Test.YtomaajagncjiiaaBLr
import Derived.Test.YtomaajagncjiiaaPCx10
namespace Go.Proofs.Ytomaajagncjiiaa.BHd
open Go.RowKit Go.Proofs.Ytomaajagncjiiaa.PC Go.Proofs.YtomaajagncjiiaaW.PrintWords Go.Proofs.YtomaajagncjiiaaW.PrintLast Go.Proofs.YtomaajagncjiiaaW.PrintMore
open Go.Proofs.Ytomaajagncjiiaa.Idm Go.Proofs.Ytomaajagncjiiaa.Lenm Go.Proofs.Ytomaajagncjiiaa.Hdm Go.Proofs.Ytomaajagncjiiaa.BId Go.Proofs.Ytomaajagncjiiaa.BLen Go.Proofs.Ytomaajagncjiiaa.RId
set_option linter.unusedVariables false

theorem rhget_ok (s : ByteArray) (hs : s.size ≤ 281474976710656) (at_ : Int) (h0 : 0 ≤ at_) (h1 : at_ ≤ s.size) (k : Nat) (hk : 2 * s.size + 20 ≤ k) :
    gantletref07_Get.f k s at_ = some (gotH at_ (hg ((bytesOf s).drop at_.toNat))) := by
  obtain ⟨l, hl⟩ : ∃ l, l = (bytesOf s).drop at_.toNat := ⟨_, rfl⟩
  have hll : l.length = s.size - at_.toNat := by rw [hl, List.length_drop, bytesOf_length]
  have hp := (idg_err l).2.1
  unfold gantletref07_Get.f
  rw [rget_ok s hs at_ h0 h1 k (by omega), ← hl, Option.bind_some]
  by_cases h2 : (idg l).2.2.2.2 = 0
  · rw [if_pos (show (gotten at_ (idg l)).2.2.2.2.2 = 0 from h2), show (gotten at_ (idg l)).2.2.2.2.1 = at_ + ((idg l).2.2.2.1 : Int) from rfl, rlget_ok s hs _ (by omega) (by omega) k (by omega), Option.bind_some]
    have e : (bytesOf s).drop (at_ + ((idg l).2.2.2.1 : Int)).toNat = l.drop (idg l).2.2.2.1 := by
      rw [show (at_ + ((idg l).2.2.2.1 : Int)).toNat = at_.toNat + (idg l).2.2.2.1 by omega, ← List.drop_drop, ← hl]
    rw [e]
    by_cases h3 : (lg (l.drop (idg l).2.2.2.1)).2.2 = 0
    · rw [if_pos (show (gotL (at_ + ((idg l).2.2.2.1 : Int)) (lg (l.drop (idg l).2.2.2.1))).2.2 = 0 from h3), hg_yes l h2 h3]
      simp only [gotH, gotL, gotten]
      rw [show at_ + (((idg l).2.2.2.1 + (lg (l.drop (idg l).2.2.2.1)).2.1 : Nat) : Int) = at_ + ((idg l).2.2.2.1 : Int) + ((lg (l.drop (idg l).2.2.2.1)).2.1 : Int) by omega]
    · rw [if_neg (show ¬ (gotL (at_ + ((idg l).2.2.2.1 : Int)) (lg (l.drop (idg l).2.2.2.1))).2.2 = 0 from h3), hg_no l h2 h3]
      simp only [gotH, gotL]
      rw [show at_ + (((idg l).2.2.2.1 + (lg (l.drop (idg l).2.2.2.1)).2.1 : Nat) : Int) = at_ + ((idg l).2.2.2.1 : Int) + ((lg (l.drop (idg l).2.2.2.1)).2.1 : Int) by omega]
  · rw [if_neg (show ¬ (gotten at_ (idg l)).2.2.2.2.2 = 0 from h2), hg_id l h2]
    simp only [gotH, gotten]
    obtain ⟨q1, q2, q3⟩ := (idg_err l).2.2.2.2 h2
    rw [q1, q2, q3]
theorem rhget_arg (s : ByteArray) (at_ : Int) (h : at_ < 0 ∨ at_ > s.size) (k : Nat) : gantletref07_Get.f (k + 1) s at_ = some (0, 0, false, 0, 0, 1) := by
  unfold gantletref07_Get.f
  rw [rget_arg s at_ h k, Option.bind_some]
  rfl
end Go.Proofs.Ytomaajagncjiiaa.BHd
