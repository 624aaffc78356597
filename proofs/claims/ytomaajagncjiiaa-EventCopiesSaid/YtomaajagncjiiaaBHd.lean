/- What the printed functions for heads come to: the plain law's functions. -/
import Derived.Test.YtomaajagncjiiaaBLen
import Derived.Test.YtomaajagncjiiaaPCx5
namespace Go.Proofs.Ytomaajagncjiiaa.BHd
open Go.RowKit Go.Proofs.Ytomaajagncjiiaa.PC Go.Proofs.YtomaajagncjiiaaW.PrintWords Go.Proofs.YtomaajagncjiiaaW.PrintLast Go.Proofs.YtomaajagncjiiaaW.PrintMore
open Go.Proofs.Ytomaajagncjiiaa.Idm Go.Proofs.Ytomaajagncjiiaa.Lenm Go.Proofs.Ytomaajagncjiiaa.Hdm Go.Proofs.Ytomaajagncjiiaa.BId Go.Proofs.Ytomaajagncjiiaa.BLen
set_option linter.unusedVariables false

/-- The answer at a place. -/
def gotH (at_ : Int) (r : Int × Int × Bool × Int × Nat × Int) : Int × Int × Bool × Int × Int × Int := (r.1, r.2.1, r.2.2.1, r.2.2.2.1, at_ + (r.2.2.2.2.1 : Int), r.2.2.2.2.2)
theorem hg_yes (l : List Int) (h : (idg l).2.2.2.2 = 0) (h2 : (lg (l.drop (idg l).2.2.2.1)).2.2 = 0) : hg l = ((idg l).1, (idg l).2.1, (idg l).2.2.1, (lg (l.drop (idg l).2.2.2.1)).1, (idg l).2.2.2.1 + (lg (l.drop (idg l).2.2.2.1)).2.1, 0) := by
  unfold hg; rw [if_pos h, if_pos h2]
theorem hg_no (l : List Int) (h : (idg l).2.2.2.2 = 0) (h2 : ¬ (lg (l.drop (idg l).2.2.2.1)).2.2 = 0) : hg l = (0, 0, false, 0, (idg l).2.2.2.1 + (lg (l.drop (idg l).2.2.2.1)).2.1, (lg (l.drop (idg l).2.2.2.1)).2.2) := by
  unfold hg; rw [if_pos h, if_neg h2]
theorem hg_id (l : List Int) (h : ¬ (idg l).2.2.2.2 = 0) : hg l = (0, 0, false, 0, (idg l).2.2.2.1, (idg l).2.2.2.2) := by
  unfold hg; rw [if_neg h]
theorem hget_ok (s : ByteArray) (hs : s.size ≤ 281474976710656) (at_ : Int) (h0 : 0 ≤ at_) (h1 : at_ ≤ s.size) (k : Nat) (hk : 2 * s.size + 20 ≤ k) :
    head_Get.f k s at_ = some (gotH at_ (hg ((bytesOf s).drop at_.toNat))) := by
  obtain ⟨l, hl⟩ : ∃ l, l = (bytesOf s).drop at_.toNat := ⟨_, rfl⟩
  have hll : l.length = s.size - at_.toNat := by rw [hl, List.length_drop, bytesOf_length]
  have hp := (idg_err l).2.1
  unfold head_Get.f
  rw [get_ok s hs at_ h0 h1 k (by omega), ← hl, Option.bind_some]
  by_cases h2 : (idg l).2.2.2.2 = 0
  · rw [if_pos (show (gotten at_ (idg l)).2.2.2.2.2 = 0 from h2), show (gotten at_ (idg l)).2.2.2.2.1 = at_ + ((idg l).2.2.2.1 : Int) from rfl, lget_ok s hs _ (by omega) (by omega) k (by omega), Option.bind_some]
    have e : (bytesOf s).drop (at_ + ((idg l).2.2.2.1 : Int)).toNat = l.drop (idg l).2.2.2.1 := by
      rw [show (at_ + ((idg l).2.2.2.1 : Int)).toNat = at_.toNat + (idg l).2.2.2.1 by omega, ← List.drop_drop, ← hl]
    rw [e]
    by_cases h3 : (lg (l.drop (idg l).2.2.2.1)).2.2 = 0
    · rw [if_pos (show (gotL (at_ + ((idg l).2.2.2.1 : Int)) (lg (l.drop (idg l).2.2.2.1))).2.2 = 0 from h3), hg_yes l h2 h3]
      simp only [gotH, gotL, gotten]
      rw [show at_ + (((idg l).2.2.2.1 + (lg (l.drop (idg l).2.2.2.1)).2.1 : Nat) : Int) = at_ + ((idg l).2.2.2.1 : Int) + ((lg (l.drop (idg l).2.2.2.1)).2.1 : Int) by omega]
    · rw [if_neg (show ¬ (gotL (at_ + ((idg l).2.2.2.1 : Int)) (lg (l.drop (idg l).2.2.2.1))).2.2 = 0 from h3), hg_no l h2 h3]
      simp only [gotH, gotL]
      rw [show at_ + (((idg l).2.2.2.1 + (lg (l.drop (idg l).2.2.2.1)).2.1 : Nat) : Int) = at_ + ((idg l).2.2.2.1 : Int) + ((lg (l.drop (idg l).2.2.2.1)).2.1 : Int) by omega]
  · rw [if_neg (show ¬ (gotten at_ (idg l)).2.2.2.2.2 = 0 from h2), hg_id l h2]
    rfl
theorem hget_arg (s : ByteArray) (at_ : Int) (h : at_ < 0 ∨ at_ > s.size) (k : Nat) : head_Get.f (k + 1) s at_ = some (0, 0, false, 0, 0, 1) := by
  unfold head_Get.f
  rw [get_arg s at_ h k, Option.bind_some]
  rfl
end Go.Proofs.Ytomaajagncjiiaa.BHd
