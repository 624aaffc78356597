/- What the printed functions for lengths come to: the plain law's functions. -/
import Derived.Test.YtomaajagncjiiaaBId
import Derived.Test.YtomaajagncjiiaaMHd
import Derived.Test.YtomaajagncjiiaaPCx4
namespace Go.Proofs.Ytomaajagncjiiaa.BLen
open Go.RowKit Go.Proofs.Ytomaajagncjiiaa.PC Go.Proofs.YtomaajagncjiiaaW.PrintWords Go.Proofs.YtomaajagncjiiaaW.PrintLast Go.Proofs.YtomaajagncjiiaaW.PrintMore
open Go.Proofs.Ytomaajagncjiiaa.Idm Go.Proofs.Ytomaajagncjiiaa.Lenm Go.Proofs.Ytomaajagncjiiaa.BId
set_option linter.unusedVariables false

theorem strOf_append (a b : List Int) : strOfNums a ++ strOfNums b = strOfNums (a ++ b) := by
  refine ByteArray.ext ?_
  rw [ByteArray.data_append]
  unfold strOfNums
  simp
theorem u8_128_or (x : Int) (h₀ : 0 ≤ x) (h₁ : x < 128) : Go.bits .or .u8 128 x = 128 + x := by
  have h : ∀ n : Nat, n < 128 → Go.bits .or .u8 128 (n : Int) = 128 + (n : Int) := by decide +kernel
  have := h x.toNat (by omega)
  rwa [Int.toNat_of_nonneg h₀] at this
theorem wraps_u64 (n : Int) (h₀ : 0 ≤ n) (h₁ : n < 2 ^ 64) : IntKind.u64.wrap n = n := by rw [IntKind.wrap_u64]; omega
theorem u64_or8 (x b : Int) (hx₀ : 0 ≤ x) (hx : x < 72057594037927936) (h0 : 0 ≤ b) (h1 : b < 256) : Go.bits .or .u64 (IntKind.u64.wrap (x * 256)) (IntKind.u64.wrap b) = 256 * x + b := by
  rw [wraps_u64 _ (by omega) (by omega), wraps_u64 _ h0 (by omega), bits_join .u64 64 (by decide) wraps_u64 8 _ _ (by omega) (by omega) (by omega) h0 (by omega) (by omega)]
  omega

/-! ### Put -/
/-- A number's bytes; none of 0. -/
def lb0 (n : Nat) : List Int := if n = 0 then [] else lb n
theorem lb0_step (n : Nat) (h : 0 < n) : lb0 n = lb0 (n / 256) ++ [((n % 256 : Nat) : Int)] := by
  unfold lb0
  rw [if_neg (by omega)]
  by_cases h1 : n < 256
  · rw [if_pos (by omega), lb_small n h1, show n % 256 = n by omega]; rfl
  · rw [if_neg (by omega), lb_big n (by omega)]
/-! ### Get -/
theorem val_lt (l : List Int) (h : Bytes l) : val l < 256 ^ l.length := by
  revert h
  refine rev_ind (p := fun l => Bytes l → val l < 256 ^ l.length) (fun _ => by simp [val]) (fun l b ih h => ?_) l
  rw [val_snoc, List.length_append, List.length_singleton, Int.pow_succ]
  have := ih (fun x hx => h x (by simp [hx])); have := h b (by simp)
  omega
theorem val_take (l : List Int) (i : Nat) (h : i < l.length) : val (l.take (i + 1)) = 256 * val (l.take i) + l.getD i 0 := by
  rw [List.take_succ_eq_append_getElem h, val_snoc, List.getD_eq_getElem?_getD, List.getElem?_eq_getElem h]
  rfl
theorem val_take_lt (l : List Int) (hb : Bytes l) (i j : Nat) (hi : i ≤ j) (hj : i ≤ l.length) : 0 ≤ val (l.take i) ∧ val (l.take i) < 256 ^ j := by
  have hb' : Bytes (l.take i) := fun x hx => hb x (List.mem_of_mem_take hx)
  have h1 := val_lt _ hb'
  have h2 : (256 : Int) ^ (l.take i).length ≤ 256 ^ j := by
    have h3 : (l.take i).length ≤ j := by rw [List.length_take]; omega
    have h4 := Int.ofNat_le.2 (Nat.pow_le_pow_right (show 0 < 256 by omega) h3)
    rw [Int.natCast_pow, Int.natCast_pow] at h4
    exact h4
  exact ⟨val_nonneg _ hb', by omega⟩
theorem val_take7 (l : List Int) (hb : Bytes l) (i : Nat) (hi : i ≤ 7) (hj : i ≤ l.length) : 0 ≤ val (l.take i) ∧ val (l.take i) < 72057594037927936 := val_take_lt l hb i 7 hi hj
theorem val_take8 (l : List Int) (hb : Bytes l) (i : Nat) (hi : i ≤ 8) (hj : i ≤ l.length) : 0 ≤ val (l.take i) ∧ val (l.take i) < 18446744073709551616 := val_take_lt l hb i 8 hi hj
/-- What is behind the first byte, the count told: (length, place, error), all by places of the whole. -/
def tailR (at_ : Int) (size : Int) (c : Int) (r : List Int) : Int × Int × Int :=
  if (r.length : Int) < c then (0, size, 2)
  else if MaxLen < val (r.take c.toNat) then (0, at_ + c, 4)
  else (val (r.take c.toNat), at_ + 1 + c, 0)
theorem lget_loop (s : ByteArray) (hs : s.size ≤ 281474976710656) (at_ c : Int) (h0 : 0 ≤ at_) (hc1 : 1 ≤ c) (hc8 : c ≤ 8) (ha : at_ < s.size)
    (hf : ∀ (_ : 0 < ((bytesOf s).drop (at_ + 1).toNat).length), ¬ (((bytesOf s).drop (at_ + 1).toNat).getD 0 0 = 0 ∨ c = 1 ∧ ((bytesOf s).drop (at_ + 1).toNat).getD 0 0 < 128)) :
    ∀ (d k : Nat) (i : Nat), i + d = c.toNat → i ≤ ((bytesOf s).drop (at_ + 1).toNat).length → d < k →
      length_Get.l0 k s at_ c (val (((bytesOf s).drop (at_ + 1).toNat).take i)) c (i : Int) = some (tailR at_ s.size c ((bytesOf s).drop (at_ + 1).toNat)) := by
  obtain ⟨r, hr⟩ : ∃ r, r = (bytesOf s).drop (at_ + 1).toNat := ⟨_, rfl⟩
  have hrl : (r.length : Int) = s.size - (at_ + 1) := by rw [hr, List.length_drop, bytesOf_length]; omega
  have hrb : Bytes r := by rw [hr]; exact fun x hx => bytes_of s x (List.mem_of_mem_drop hx)
  rw [← hr] at hf ⊢
  have ha1 : Aside0 (wrap64 (at_ + 1) = at_ + 1) := ⟨w64 (by omega) (by omega)⟩
  intro d
  induction d with
  | zero =>
    intro k i hi hl hk
    obtain ⟨k, rfl⟩ : ∃ m, k = m + 1 := ⟨k - 1, by omega⟩
    obtain rfl : i = c.toNat := by omega
    have hv := val_take8 r hrb c.toNat (by omega) hl
    simp only [length_Get.l0]
    rw [if_neg (by omega)]
    unfold tailR MaxLen
    rw [if_neg (show ¬ (r.length : Int) < c by omega)]
    by_cases hm : val (r.take c.toNat) > 2305843009213693951
    · rw [if_pos hm, if_pos (by omega), w64 (by omega) (by omega)]
    · rw [if_neg hm, if_neg (by omega), ha1.out, w64 (x := val (r.take c.toNat)) (by omega) (by omega), w64 (by omega) (by omega)]
  | succ d ih =>
    intro k i hi hl hk
    obtain ⟨k, rfl⟩ : ∃ m, k = m + 1 := ⟨k - 1, by omega⟩
    have hon : Aside0 (wrap64 (wrap64 (at_ + 1) + (i : Int)) = at_ + 1 + i) := ⟨by rw [ha1.out]; exact w64 (by omega) (by omega)⟩
    have hi1 : Aside0 (wrap64 ((i : Int) + 1) = ((i + 1 : Nat) : Int)) := ⟨by rw [w64 (by omega) (by omega)]; omega⟩
    simp only [length_Get.l0, hon.out, hi1.out]
    rw [if_pos (show (i : Int) < c by omega)]
    by_cases he : at_ + 1 + (i : Int) ≥ s.size
    · rw [if_pos he]
      unfold tailR
      rw [if_pos (by omega)]
    · rw [if_neg he, if_pos (by omega), if_pos (by omega)]
      have hil : i < r.length := by omega
      have hbt : bt s (at_ + 1 + (i : Int)) = r.getD i 0 := by
        rw [← rd_bytesOf, rd, hr, getD_drop]
        congr 1; omega
      have hbr := bt_range s (at_ + 1 + (i : Int))
      have hv := val_take7 r hrb i (by omega) hl
      have hor : Go.bits .or .u64 (IntKind.u64.wrap (val (r.take i) * 256)) (IntKind.u64.wrap (bt s (at_ + 1 + (i : Int)))) = val (r.take (i + 1)) := by
        rw [u64_or8 _ _ hv.1 hv.2 (by omega) (by omega), val_take r i hil, hbt]
      rw [hor]
      have step := ih k (i + 1) (by omega) hil (by omega)
      by_cases hi0 : (i : Int) = 0
      · obtain rfl : i = 0 := by omega
        have hf' := hf (by omega)
        rw [if_pos hi0, hbt, if_neg (fun e => hf' (.inl e))]
        by_cases hc : c = 1
        · rw [if_pos hc, if_neg (fun e => hf' (.inr ⟨hc, e⟩))]; exact step
        · rw [if_neg hc]; exact step
      · rw [if_neg hi0]; exact step
/-- The answer at a place. -/
def gotL (at_ : Int) (r : Int × Nat × Int) : Int × Int × Int := (r.1, at_ + (r.2.1 : Int), r.2.2)
theorem tail_lg (at_ size : Int) (f : Int) (r : List Int) (hs : size = at_ + 1 + r.length) (h1 : ¬ f < 128) (h2 : ¬ (f = 128 ∨ 136 < f)) (h3 : ¬ (0 < r.length ∧ (r.getD 0 0 = 0 ∨ f = 129 ∧ r.getD 0 0 < 128))) :
    tailR at_ size (f - 128) r = gotL at_ (lg (f :: r)) := by
  simp only [lg]
  rw [if_neg h1, if_neg h2, if_neg h3]
  unfold tailR gotL
  split
  · simp; omega
  split
  · simp; omega
  · simp; omega
theorem lget_ok (s : ByteArray) (hs : s.size ≤ 281474976710656) (at_ : Int) (h0 : 0 ≤ at_) (h1 : at_ ≤ s.size) (k : Nat) (hk : 14 ≤ k) :
    length_Get.f k s at_ = some (gotL at_ (lg ((bytesOf s).drop at_.toNat))) := by
  obtain ⟨k, rfl⟩ : ∃ m, k = m + 3 := ⟨k - 3, by omega⟩
  unfold length_Get.f
  rw [if_neg (by omega), show decide (at_ > (s.size : Int)) = false by simp; omega]
  simp only [length_Get.j0, Bool.false_eq_true, if_false]
  by_cases h2 : at_ = (s.size : Int)
  · rw [if_pos h2, drop_end s at_ (by omega)]; simp [lg, gotL]
  · have hb := bt_range s at_
    have hl : at_ < s.size := by omega
    rw [if_neg h2, if_pos h0, if_pos hl, w64 (x := bt s at_) (by omega) (by omega), w64 (x := at_ + 1) (by omega) (by omega), drop_at s at_ h0 hl, w64 (x := bt s at_ - 128) (by omega) (by omega)]
    by_cases h3 : bt s at_ < 128
    · rw [if_pos h3]; simp [lg, gotL, h3]
    rw [if_neg h3]
    by_cases h4 : bt s at_ = 128 ∨ 136 < bt s at_
    · have e : length_Get.j1 (k + 2) s at_ (bt s at_ - 128) true = some (0, at_, 4) := by simp only [length_Get.j1, if_true]
      have e2 : lg (bt s at_ :: (bytesOf s).drop (at_ + 1).toNat) = (0, 0, 4) := by simp only [lg]; rw [if_neg h3, if_pos h4]
      rw [e2]
      by_cases h5 : bt s at_ - 128 = 0
      · rw [if_pos h5, e]; simp [gotL]
      · rw [if_neg h5, show decide (bt s at_ - 128 > 8) = true by simp; omega, e]; simp [gotL]
    · rw [if_neg (by omega), show decide (bt s at_ - 128 > 8) = false by simp; omega]
      simp only [length_Get.j1, Bool.false_eq_true, if_false]
      have hrl : ((bytesOf s).drop (at_ + 1).toNat).length = s.size - (at_ + 1).toNat := by rw [List.length_drop, bytesOf_length]
      by_cases h6 : 0 < ((bytesOf s).drop (at_ + 1).toNat).length ∧ (((bytesOf s).drop (at_ + 1).toNat).getD 0 0 = 0 ∨ bt s at_ = 129 ∧ ((bytesOf s).drop (at_ + 1).toNat).getD 0 0 < 128)
      · have hbt : bt s (at_ + 1) = ((bytesOf s).drop (at_ + 1).toNat).getD 0 0 := by
          rw [← rd_bytesOf, rd, getD_drop]; rfl
        have e2 : lg (bt s at_ :: (bytesOf s).drop (at_ + 1).toNat) = (0, 1, 4) := by simp only [lg]; rw [if_neg h3, if_neg h4, if_pos h6]
        rw [e2]
        have ha1 : wrap64 (at_ + 1) = at_ + 1 := w64 (by omega) (by omega)
        have hon : wrap64 (wrap64 (at_ + 1) + 0) = at_ + 1 := by rw [ha1, Int.add_zero, ha1]
        simp only [length_Get.l0]
        rw [if_pos (by omega), hon, if_neg (by omega), if_pos (by omega), if_pos (by omega), if_pos trivial, hbt]
        rcases h6.2 with h7 | ⟨h7, h8⟩
        · rw [if_pos h7]; simp [gotL]
        · by_cases h9 : ((bytesOf s).drop (at_ + 1).toNat).getD 0 0 = 0
          · rw [if_pos h9]; simp [gotL]
          · rw [if_neg h9, if_pos (by omega), if_pos h8]; simp [gotL]
      · have := lget_loop s hs at_ (bt s at_ - 128) h0 (by omega) (by omega) hl (fun hp hq => h6 ⟨hp, by rcases hq with hq | ⟨hq, hq2⟩; exact .inl hq; exact .inr ⟨by omega, hq2⟩⟩) (bt s at_ - 128).toNat (k + 1) 0 (by omega) (Nat.zero_le _) (by omega)
        rw [List.take_zero, show val [] = 0 from rfl, show ((0 : Nat) : Int) = 0 from rfl] at this
        rw [this, tail_lg at_ s.size (bt s at_) _ (by omega) h3 h4 h6]
theorem lget_arg (s : ByteArray) (at_ : Int) (h : at_ < 0 ∨ at_ > s.size) (k : Nat) : length_Get.f (k + 1) s at_ = some (0, 0, 1) := by
  unfold length_Get.f
  have e : length_Get.j0 (k + 1) s at_ true = some (0, 0, 1) := by simp only [length_Get.j0, if_true]
  by_cases h1 : at_ < 0
  · rw [if_pos h1, e]
  · rw [if_neg h1, show decide (at_ > (s.size : Int)) = true by simp; omega, e]

end Go.Proofs.Ytomaajagncjiiaa.BLen
