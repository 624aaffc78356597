/- What the printed functions of the reference for lengths come to: the plain law's functions. -/
import Derived.Test.YtomaajagncjiiaaBLen
import Derived.Test.YtomaajagncjiiaaPCx9
namespace Go.Proofs.Ytomaajagncjiiaa.BLen
open Go.RowKit Go.Proofs.Ytomaajagncjiiaa.PC Go.Proofs.YtomaajagncjiiaaW.PrintWords Go.Proofs.YtomaajagncjiiaaW.PrintLast Go.Proofs.YtomaajagncjiiaaW.PrintMore
open Go.Proofs.Ytomaajagncjiiaa.Idm Go.Proofs.Ytomaajagncjiiaa.Lenm Go.Proofs.Ytomaajagncjiiaa.BId
set_option linter.unusedVariables false

/-- Once too great, it stays so. -/
theorem val_great (r : List Int) (hb : Bytes r) (c : Nat) (hc : c ≤ r.length) : ∀ (d i : Nat), i + (d + 1) = c → 9007199254740991 < val (r.take i) → MaxLen < val (r.take c) := by
  intro d
  induction d with
  | zero =>
    intro i hi hv
    rw [← hi, val_take r i (by omega)]
    have : 0 ≤ r.getD i 0 := by
      rw [List.getD_eq_getElem?_getD, List.getElem?_eq_getElem (by omega)]
      exact (hb _ (List.getElem_mem _)).1
    unfold MaxLen; omega
  | succ d ih =>
    intro i hi hv
    refine ih (i + 1) (by omega) ?_
    rw [val_take r i (by omega)]
    have : 0 ≤ r.getD i 0 := by
      rw [List.getD_eq_getElem?_getD, List.getElem?_eq_getElem (by omega)]
      exact (hb _ (List.getElem_mem _)).1
    omega
theorem rlget_loop (x8 : ByteArray) (size at_ c : Int) (h0 : 0 ≤ at_) (hsz : size ≤ 281474976710656) (hx : (x8.size : Int) = size - (at_ + 1)) (hc1 : 1 ≤ c) (hc8 : c ≤ 8) (hcl : c ≤ x8.size) :
    ∀ (d k : Nat) (i : Nat), i + d = c.toNat → (val ((bytesOf x8).take i) ≤ 2305843009213693951 + 255 ∨ d = 0) → d < k →
      gantletref06_Get.l0 k at_ x8 c (val ((bytesOf x8).take i)) (i : Int) = some (tailR at_ size c (bytesOf x8)) := by
  obtain ⟨r, hr⟩ : ∃ r, r = bytesOf x8 := ⟨_, rfl⟩
  have hrl : (r.length : Int) = x8.size := by rw [hr, bytesOf_length]
  have hrb : Bytes r := by rw [hr]; exact bytes_of x8
  rw [← hr]
  have ha1 : Aside0 (wrap64 (at_ + 1) = at_ + 1) := ⟨w64 (by omega) (by omega)⟩
  intro d
  induction d with
  | zero =>
    intro k i hi hv0 hk
    obtain ⟨k, rfl⟩ : ∃ m, k = m + 1 := ⟨k - 1, by omega⟩
    obtain rfl : i = c.toNat := by omega
    simp only [gantletref06_Get.l0]
    rw [if_neg (by omega)]
    unfold tailR MaxLen
    rw [if_neg (show ¬ (r.length : Int) < c by omega)]
    by_cases hm : val (r.take c.toNat) > 2305843009213693951
    · rw [if_pos hm, if_pos (by omega), w64 (by omega) (by omega)]
    · rw [if_neg hm, if_neg (by omega), ha1.out, w64 (by omega) (by omega)]
  | succ d ih =>
    intro k i hi hv0 hk
    obtain ⟨k, rfl⟩ : ∃ m, k = m + 1 := ⟨k - 1, by omega⟩
    have hi1 : Aside0 (wrap64 ((i : Int) + 1) = ((i + 1 : Nat) : Int)) := ⟨by rw [w64 (by omega) (by omega)]; omega⟩
    have hil : i < r.length := by omega
    have hv := val_take8 r hrb i (by omega) (by omega)
    simp only [gantletref06_Get.l0, hi1.out]
    rw [if_pos (show (i : Int) < c by omega)]
    by_cases hg : val (r.take i) > 9007199254740991
    · rw [if_pos hg]
      have := val_great r hrb c.toNat (by omega) d i (by omega) hg
      unfold tailR
      rw [if_neg (by omega), if_pos this, w64 (by omega) (by omega)]
    · rw [if_neg hg]
      have hbt : bt x8 (i : Int) = r.getD i 0 := by rw [← rd_bytesOf, rd, hr]; rfl
      have hbr := bt_range x8 (i : Int)
      have hst : Aside0 (wrap64 (wrap64 (256 * val (r.take i)) + wrap64 (bt x8 (i : Int))) = val (r.take (i + 1))) := ⟨by
        rw [w64 (x := 256 * val (r.take i)) (by omega) (by omega), w64 (x := bt x8 (i : Int)) (by omega) (by omega), w64 (by omega) (by omega), val_take r i hil, hbt]⟩
      have hnext : val (r.take (i + 1)) ≤ 2305843009213693951 + 255 := by rw [val_take r i hil]; omega
      have step := ih k (i + 1) (by omega) (.inl hnext) (by omega)
      simp only [hst.out]
      rw [w64 (x := bt x8 (i : Int)) (by omega) (by omega)]
      by_cases he : val (r.take i) = 9007199254740991
      · rw [if_pos he, if_pos (by omega), if_pos (by omega), if_neg (by omega)]; exact step
      · rw [if_neg he, if_pos (by omega), if_pos (by omega)]; exact step
theorem bytesOf_back (s : ByteArray) (n : Nat) : bytesOf (s.extract n s.size) = (bytesOf s).drop n := by
  simp only [bytesOf, ByteArray.data_extract, Array.toList_extract]
  rw [show s.size = s.data.size from rfl]
  simp [List.take_of_length_le]
theorem rlget_ok (s : ByteArray) (hs : s.size ≤ 281474976710656) (at_ : Int) (h0 : 0 ≤ at_) (h1 : at_ ≤ s.size) (k : Nat) (hk : 14 ≤ k) :
    gantletref06_Get.f k s at_ = some (gotL at_ (lg ((bytesOf s).drop at_.toNat))) := by
  obtain ⟨k, rfl⟩ : ∃ m, k = m + 3 := ⟨k - 3, by omega⟩
  unfold gantletref06_Get.f
  rw [if_neg (by omega), show decide (at_ > (s.size : Int)) = false by simp; omega]
  simp only [gantletref06_Get.j0, Bool.false_eq_true, if_false]
  by_cases h2 : at_ = (s.size : Int)
  · rw [if_pos h2, drop_end s at_ (by omega)]; simp [lg, gotL]
  · have hb := bt_range s at_
    have hl : at_ < s.size := by omega
    rw [if_neg h2, if_pos h0, if_pos hl, w64 (x := bt s at_) (by omega) (by omega), w64 (x := at_ + 1) (by omega) (by omega), drop_at s at_ h0 hl]
    by_cases h3 : bt s at_ < 128
    · rw [if_pos h3]; simp [lg, gotL, h3]
    rw [if_neg h3]
    by_cases h4 : bt s at_ = 128 ∨ 136 < bt s at_
    · have e : gantletref06_Get.j1 (k + 2) s at_ (bt s at_) true = some (0, at_, 4) := by simp only [gantletref06_Get.j1, if_true]
      have e2 : lg (bt s at_ :: (bytesOf s).drop (at_ + 1).toNat) = (0, 0, 4) := by simp only [lg]; rw [if_neg h3, if_pos h4]
      rw [e2]
      by_cases h5 : bt s at_ = 128
      · rw [if_pos h5, e]; simp [gotL]
      · rw [if_neg h5, show decide (bt s at_ > 136) = true by simp; omega, e]; simp [gotL]
    · rw [if_neg (by omega), show decide (bt s at_ > 136) = false by simp; omega]
      simp only [gantletref06_Get.j1, Bool.false_eq_true, if_false]
      have ha1 : wrap64 (at_ + 1) = at_ + 1 := w64 (by omega) (by omega)
      rw [ha1, w64 (x := bt s at_ - 128) (by omega) (by omega), if_pos (by omega), if_pos (by omega)]
      obtain ⟨x8, hx8⟩ : ∃ x8, x8 = s.extract (at_ + 1).toNat s.size := ⟨_, rfl⟩
      have hxb : bytesOf x8 = (bytesOf s).drop (at_ + 1).toNat := by rw [hx8, bytesOf_back]
      have hxl : x8.size = s.size - (at_ + 1).toNat := by rw [← bytesOf_length, hxb, List.length_drop, bytesOf_length]
      have hx0 : bt x8 0 = (bytesOf x8).getD 0 0 := by rw [← rd_bytesOf]; rfl
      rw [← hx8, ← hxb, hx0]
      have hrl : (bytesOf x8).length = x8.size := bytesOf_length _
      have hbad : gantletref06_Get.j2 (k + 1) s at_ x8 (bt s at_ - 128) true = some (0, at_ + 1, 4) := by simp only [gantletref06_Get.j2, if_true]; rw [ha1]
      have hgo : ¬ (0 < (bytesOf x8).length ∧ ((bytesOf x8).getD 0 0 = 0 ∨ bt s at_ = 129 ∧ (bytesOf x8).getD 0 0 < 128)) → gantletref06_Get.j2 (k + 1) s at_ x8 (bt s at_ - 128) false = some (gotL at_ (lg (bt s at_ :: bytesOf x8))) := by
        intro h6
        simp only [gantletref06_Get.j2, Bool.false_eq_true, if_false]
        rw [← tail_lg at_ s.size (bt s at_) _ (by omega) h3 h4 h6]
        by_cases h7 : (x8.size : Int) < bt s at_ - 128
        · rw [if_pos h7]
          unfold tailR
          rw [if_pos (by omega)]
        · rw [if_neg h7]
          have := rlget_loop x8 s.size at_ (bt s at_ - 128) h0 (by omega) (by omega) (by omega) (by omega) (by omega) (bt s at_ - 128).toNat k 0 (by omega) (.inl (by rw [List.take_zero]; simp [val])) (by omega)
          rw [List.take_zero, show val [] = 0 from rfl, show ((0 : Nat) : Int) = 0 from rfl] at this
          exact this
      by_cases h8 : (x8.size : Int) > 0
      · rw [if_pos h8, if_pos (by omega)]
        by_cases h9 : (bytesOf x8).getD 0 0 = 0
        · rw [if_pos h9, hbad]
          have e2 : lg (bt s at_ :: bytesOf x8) = (0, 1, 4) := by simp only [lg]; rw [if_neg h3, if_neg h4, if_pos ⟨by omega, .inl h9⟩]
          rw [e2]; simp [gotL]
        · rw [if_neg h9]
          by_cases h10 : bt s at_ - 128 = 1
          · rw [if_pos h10]
            by_cases h11 : (bytesOf x8).getD 0 0 < 128
            · rw [decide_eq_true h11, hbad]
              have e2 : lg (bt s at_ :: bytesOf x8) = (0, 1, 4) := by simp only [lg]; rw [if_neg h3, if_neg h4, if_pos ⟨by omega, .inr ⟨by omega, h11⟩⟩]
              rw [e2]; simp [gotL]
            · rw [decide_eq_false h11]
              exact hgo (fun h => by rcases h.2 with h | ⟨_, h⟩; exact h9 h; exact h11 h)
          · rw [if_neg h10]
            exact hgo (fun h => by rcases h.2 with h | ⟨h, _⟩; exact h9 h; omega)
      · rw [if_neg h8]
        exact hgo (fun h => by omega)
theorem rlget_arg (s : ByteArray) (at_ : Int) (h : at_ < 0 ∨ at_ > s.size) (k : Nat) : gantletref06_Get.f (k + 1) s at_ = some (0, 0, 1) := by
  unfold gantletref06_Get.f
  have e : gantletref06_Get.j0 (k + 1) s at_ true = some (0, 0, 1) := by simp only [gantletref06_Get.j0, if_true]
  by_cases h1 : at_ < 0
  · rw [if_pos h1, e]
  · rw [if_neg h1, show decide (at_ > (s.size : Int)) = true by simp; omega, e]
end Go.Proofs.Ytomaajagncjiiaa.BLen
