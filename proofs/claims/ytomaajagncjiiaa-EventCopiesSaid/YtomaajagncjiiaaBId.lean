/- What the printed functions of the identifier's layer come to: the plain law's functions. -/
import Derived.Test.YtomaajagncjiiaaMId
import Derived.Test.YtomaajagncjiiaaPCx3
import Derived.Laws.BitsLemmas
namespace Go.Proofs.Ytomaajagncjiiaa.BId
open Go.RowKit Go.Proofs.Ytomaajagncjiiaa.PC Go.Proofs.YtomaajagncjiiaaW.PrintWords Go.Proofs.YtomaajagncjiiaaW.PrintLast Go.Proofs.YtomaajagncjiiaaW.PrintMore
open Go.Proofs.Ytomaajagncjiiaa.Idm

/-! ### Numbers -/
set_option linter.unusedVariables false
theorem w64 {x : Int} (h0 : -9223372036854775808 ≤ x) (h1 : x ≤ 9223372036854775807) : wrap64 x = x := by unfold wrap64; omega
theorem wraps_i64 (n : Int) (h₀ : 0 ≤ n) (h₁ : n < 2 ^ 62) : IntKind.i64.wrap n = n := by rw [IntKind.wrap_i64]; omega
theorem i64_or7 (x y : Int) (hx₀ : 0 ≤ x) (hx : x % 128 = 0) (hx₁ : x < 4611686018427387904) (h₀ : 0 ≤ y) (h₁ : y < 128) : bits .or .i64 x y = x + y :=
  bits_join .i64 62 (by decide) wraps_i64 7 x y hx₀ hx hx₁ h₀ h₁ (by omega)
theorem u8_or5 (x y : Int) (hx₀ : 0 ≤ x) (hx : x % 32 = 0) (hx₁ : x < 256) (h₀ : 0 ≤ y) (h₁ : y < 32) : bits .or .u8 x y = x + y :=
  bits_join .u8 8 (by decide) wraps_u8 5 x y hx₀ hx hx₁ h₀ h₁ (by omega)
theorem u8_and127 (x : Int) (h₀ : 0 ≤ x) (h₁ : x < 256) : bits .and .u8 x 127 = x % 128 := bits_mask .u8 8 (by decide) wraps_u8 7 (by decide) x h₀ h₁
theorem u8_or_128 (x : Int) (h₀ : 0 ≤ x) (h₁ : x < 128) : bits .or .u8 x 128 = 128 + x := by
  have h : ∀ n : Nat, n < 128 → bits .or .u8 (n : Int) 128 = 128 + (n : Int) := by decide +kernel
  have := h x.toNat (by omega)
  rwa [Int.toNat_of_nonneg h₀] at this
theorem u8_bit32 (x : Int) (h₀ : 0 ≤ x) (h₁ : x < 256) : (bits .and .u8 x 32 != 0) = (x / 32 % 2 == 1) := by
  have h : ∀ n : Nat, n < 256 → (bits .and .u8 (n : Int) 32 != 0) = ((n : Int) / 32 % 2 == 1) := by decide +kernel
  have := h x.toNat (by omega)
  rwa [Int.toNat_of_nonneg h₀] at this
theorem shr_n (t : Int) (n : Nat) (h : n ≤ 64) : shr .i64 t (n : Int) = t / 2 ^ n := by
  unfold shr
  rw [show min ((n : Int).toNat) (IntKind.bits .i64) = n by simp [IntKind.bits]; omega]
theorem shr28 (t : Int) (h0 : 0 ≤ t) (h : t ≤ 268435455) : shr .i64 t 28 = 0 := by
  have := shr_n t 28 (by decide)
  rw [show ((28 : Nat) : Int) = 28 from rfl] at this
  rw [this]; omega
theorem shr21 (t : Int) : shr .i64 t 21 = t / 128 / 128 / 128 := by
  have := shr_n t 21 (by decide)
  rw [show ((21 : Nat) : Int) = 21 from rfl] at this
  rw [this, Int.ediv_ediv_of_nonneg (by decide), Int.ediv_ediv_of_nonneg (by decide)]; rfl
theorem shr14 (t : Int) : shr .i64 t 14 = t / 128 / 128 := by
  have := shr_n t 14 (by decide)
  rw [show ((14 : Nat) : Int) = 14 from rfl] at this
  rw [this, Int.ediv_ediv_of_nonneg (by decide)]; rfl
theorem shr7 (t : Int) : shr .i64 t 7 = t / 128 := by
  have := shr_n t 7 (by decide)
  rw [show ((7 : Nat) : Int) = 7 from rfl] at this
  rw [this]; rfl
theorem shr0 (t : Int) : shr .i64 t 0 = t := by
  have := shr_n t 0 (by decide)
  rw [show ((0 : Nat) : Int) = 0 from rfl] at this
  rw [this]; simp

/-! ### Bytes as a list -/
theorem bytes_of (s : ByteArray) : Bytes (bytesOf s) := by
  intro b hb
  simp only [bytesOf, List.mem_map] at hb
  obtain ⟨u, _, rfl⟩ := hb
  have := u.toNat_lt
  omega
theorem bytesOf_nums (l : List Int) (h : Bytes l) : bytesOf (strOfNums l) = l := by
  unfold bytesOf
  rw [strOfNums_data, List.map_map]
  conv => rhs; rw [← List.map_id l]
  apply List.map_congr_left
  intro x hx
  have := h x hx
  simp only [Function.comp, id]
  rw [UInt8.toNat_ofNat_of_lt' (by have : x.toNat < 256 := by omega
                                   simpa [UInt8.size] using this)]
  omega
theorem bytesOf_append (a b : ByteArray) : bytesOf (a ++ b) = bytesOf a ++ bytesOf b := by
  simp [bytesOf, ByteArray.data_append]
theorem bytesOf_inj {a b : ByteArray} (h : bytesOf a = bytesOf b) : a = b := by
  have h' : a.data.toList = b.data.toList := by
    unfold bytesOf at h
    refine List.map_inj_right (fun x y hxy => ?_) |>.1 h
    have : x.toNat = y.toNat := by omega
    exact UInt8.toNat_inj.1 this
  exact ByteArray.ext (Array.ext' h')
theorem drop_at (s : ByteArray) (i : Int) (h0 : 0 ≤ i) (h1 : i < s.size) : (bytesOf s).drop i.toNat = bt s i :: (bytesOf s).drop (i + 1).toNat := by
  have hl : i.toNat < (bytesOf s).length := by rw [bytesOf_length]; omega
  rw [List.drop_eq_getElem_cons hl, show (i + 1).toNat = i.toNat + 1 by omega, ← rd_bytesOf, rd, List.getD_eq_getElem?_getD, List.getElem?_eq_getElem hl]
  rfl
theorem drop_end (s : ByteArray) (i : Int) (h1 : (s.size : Int) ≤ i) : (bytesOf s).drop i.toNat = [] := by
  rw [List.drop_eq_nil_iff, bytesOf_length]; omega
theorem toList_inj {a b : ByteArray} (h : bytesOf a = bytesOf b) : a.toList = b.toList := by rw [bytesOf_inj h]

/-! ### ident.Put -/
theorem first_byte (c : Int) (cons : Bool) (h0 : 0 ≤ c) (h3 : c ≤ 3) :
    (if cons = true then Go.bits .or .u8 ((wrap64 (c * 64)) % 256) 32 else ((wrap64 (c * 64)) % 256)) = 64 * c + 32 * cb cons := by
  rcases (by omega : c = 0 ∨ c = 1 ∨ c = 2 ∨ c = 3) with rfl | rfl | rfl | rfl <;> cases cons <;> decide +kernel
theorem more_byte (y : Int) : Go.bits .or .u8 (Go.bits .and .u8 (y % 256) 127) 128 = 128 + y % 128 := by
  rw [u8_and127 _ (by omega) (by omega), u8_or_128 _ (by omega) (by omega)]; omega
theorem last_byte (y : Int) : Go.bits .and .u8 (y % 256) 127 = y % 128 := by
  rw [u8_and127 _ (by omega) (by omega)]; omega
/-! ### ident.Get -/
theorem get_loop (s : ByteArray) (hs : s.size ≤ 281474976710656) (at_ c tg : Int) (cons : Bool) (h0 : 0 ≤ at_) :
    ∀ (d k : Nat) (t i : Int) (n : Nat), 1 ≤ n → i = at_ + n → i + d = s.size → 0 ≤ t → t ≤ 268435455 → 2 * d + 1 ≤ k →
      ident_Get.l0 k s at_ t i c tg cons 0 = some (if (gT t n (n == 1) ((bytesOf s).drop i.toNat)).2.2 = 0 then (c, (gT t n (n == 1) ((bytesOf s).drop i.toNat)).2.1, cons, 0, at_ + ((gT t n (n == 1) ((bytesOf s).drop i.toNat)).1 : Int), 0)
        else (0, 0, false, 0, at_ + ((gT t n (n == 1) ((bytesOf s).drop i.toNat)).1 : Int), (gT t n (n == 1) ((bytesOf s).drop i.toNat)).2.2)) := by
  intro d
  induction d with
  | zero =>
    intro k t i n hn hi hd ht0 htm hk
    obtain ⟨k, rfl⟩ : ∃ m, k = m + 1 := ⟨k - 1, by omega⟩
    rw [drop_end s i (by omega)]
    rw [show gT t n (n == 1) [] = (n, 0, 2) from rfl]
    simp only [ident_Get.l0]
    rw [if_neg (by omega)]
    simp; omega
  | succ d ih =>
    intro k t i n hn hi hd ht0 htm hk
    obtain ⟨k, rfl⟩ : ∃ m, k = m + 2 := ⟨k - 2, by omega⟩
    have hb := bt_range s i
    have hi1 : wrap64 (i + 1) = i + 1 := w64 (by omega) (by omega)
    have ha1 : wrap64 (at_ + 1) = at_ + 1 := w64 (by omega) (by omega)
    have htt : Go.bits .or .i64 (wrap64 (t * 128)) (wrap64 (Go.bits .and .u8 (bt s i) 127)) = 128 * t + bt s i % 128 := by
      rw [u8_and127 _ (by omega) (by omega), w64 (x := t * 128) (by omega) (by omega), w64 (x := bt s i % 128) (by omega) (by omega), i64_or7 _ _ (by omega) (by omega) (by omega) (by omega) (by omega)]
      omega
    have e : ident_Get.l0 (k + 2) s at_ t i c tg cons 0 = ident_Get.j2 (k + 1) s at_ t i ((n == 1) && (bt s i == 128)) c tg cons 0 := by
      simp only [ident_Get.l0]
      rw [if_pos (by omega), ha1]
      by_cases h : n = 1
      · subst h
        rw [if_pos (by omega), if_pos (by omega)]; simp
      · rw [if_neg (by omega), show (n == 1) = false by simpa using h]; rfl
    rw [e, drop_at s i (by omega) (by omega), gT_cons]
    simp only [ident_Get.j2]
    by_cases h1 : ((n == 1) && (bt s i == 128)) = true
    · rw [if_pos h1, if_pos h1]; simp; omega
    rw [if_neg h1, if_neg h1, if_pos (by omega), if_pos (by omega), htt]
    by_cases h2 : 128 * t + bt s i % 128 > 268435455
    · rw [if_pos h2, if_pos h2]; simp; omega
    rw [if_neg h2, if_neg h2]
    by_cases h3 : bt s i ≥ 128
    · rw [if_pos h3, if_pos h3, hi1, ih k _ (i + 1) (n + 1) (by omega) (by omega) (by omega) (by omega) (by omega) (by omega), show (n + 1 == 1) = false by simp; omega]
    rw [if_neg h3, if_neg h3]
    by_cases h4 : 128 * t + bt s i % 128 < 31
    · rw [if_pos h4, if_pos h4]; simp; omega
    · rw [if_neg h4, if_neg h4, hi1]; simp; omega
/-- The whole answer: a head's class, tag, form, no length, the place, the error. -/
def gotten (at_ : Int) (r : Int × Int × Bool × Nat × Int) : Int × Int × Bool × Int × Int × Int := (r.1, r.2.1, r.2.2.1, 0, at_ + (r.2.2.2.1 : Int), r.2.2.2.2)
theorem get_ok (s : ByteArray) (hs : s.size ≤ 281474976710656) (at_ : Int) (h0 : 0 ≤ at_) (h1 : at_ ≤ s.size) (k : Nat) (hk : 2 * s.size + 3 ≤ k) :
    ident_Get.f k s at_ = some (gotten at_ (idg ((bytesOf s).drop at_.toNat))) := by
  obtain ⟨k, rfl⟩ : ∃ m, k = m + 1 := ⟨k - 1, by omega⟩
  unfold ident_Get.f
  rw [if_neg (by omega), show decide (at_ > (s.size : Int)) = false by simp; omega]
  simp only [ident_Get.j0, Bool.false_eq_true, if_false]
  by_cases h2 : at_ = (s.size : Int)
  · rw [if_pos h2, drop_end s at_ (by omega)]; simp [idg, gotten]
  · have hb := bt_range s at_
    have ha1 : wrap64 (at_ + 1) = at_ + 1 := w64 (by omega) (by omega)
    rw [if_neg h2, if_pos h0, if_pos (by omega), drop_at s at_ h0 (by omega), u8_and31 _ (by omega) (by omega), w64 (x := bt s at_ % 32) (by omega) (by omega), w64 (x := bt s at_ / 64) (by omega) (by omega), ha1, u8_bit32 _ (by omega) (by omega)]
    by_cases h3 : bt s at_ % 32 < 31
    · rw [if_pos h3]; simp [idg, gotten, h3]
    · rw [if_neg h3, get_loop s hs at_ _ _ _ h0 (s.size - at_.toNat - 1) k 0 (at_ + 1) 1 (by omega) rfl (by omega) (by omega) (by omega) (by omega)]
      simp only [idg, if_neg h3, beq_self_eq_true]
      split
      · rename_i h; simp [gotten]
      · simp [gotten]
theorem get_arg (s : ByteArray) (at_ : Int) (h : at_ < 0 ∨ at_ > s.size) (k : Nat) : ident_Get.f (k + 1) s at_ = some (0, 0, false, 0, 0, 1) := by
  unfold ident_Get.f
  have e : ident_Get.j0 (k + 1) s at_ true = some (0, 0, false, 0, 0, 1) := by simp only [ident_Get.j0, if_true]
  by_cases h1 : at_ < 0
  · rw [if_pos h1, e]
  · rw [if_neg h1, show decide (at_ > (s.size : Int)) = true by simp; omega, e]

end Go.Proofs.Ytomaajagncjiiaa.BId
