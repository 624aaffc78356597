/- What the row of GrammarFront stands on, made small by a program of this session (pack.py). -/
import Derived.Laws.BitsLemmas
import Derived.Test.YtcfommconnlhgaaCGrammarFront2
import Derived.Test.YtcfommconnlhgaaCGrammarFront11
import Derived.Test.YtcfommconnlhgaaCGrammarFront12
namespace Go.Proofs.Ytcfommconnlhgaa.BId
open RowKit PC YtcfommconnlhgaaW.PrintWords YtcfommconnlhgaaW.PrintLast YtcfommconnlhgaaW.PrintMore
open Idm
set_option linter.unusedVariables false
theorem w64 {x : Int} (h0 : -9223372036854775808 ≤ x) (h1 : x ≤ 9223372036854775807) : wrap64 x = x := by unfold wrap64; omega
theorem wraps_i64 (n : Int) (h₀ : 0 ≤ n) (h₁ : n < 2 ^ 62) : IntKind.i64.wrap n = n := by rw [IntKind.wrap_i64]; omega
theorem i64_or7 (x y : Int) (hx₀ : 0 ≤ x) (hx : x % 128 = 0) (hx₁ : x < 4611686018427387904) (h₀ : 0 ≤ y) (h₁ : y < 128) : bits .or .i64 x y = x + y :=
  bits_join .i64 62 zz8 wraps_i64 7 x y hx₀ hx hx₁ h₀ h₁ zz4
theorem u8_and127 (x : Int) (h₀ : 0 ≤ x) (h₁ : x < 256) : bits .and .u8 x 127 = x % 128 := bits_mask .u8 8 zz8 wraps_u8 7 zz8 x h₀ h₁
theorem u8_bit32 (x : Int) (h₀ : 0 ≤ x) (h₁ : x < 256) : (bits .and .u8 x 32 != 0) = (x / 32 % 2 == 1) := by
  have h : ∀ n : Nat, n < 256 → (bits .and .u8 (n : Int) 32 != 0) = ((n : Int) / 32 % 2 == 1) := by decide +kernel
  have := h x.toNat zz4
  rwa [Int.toNat_of_nonneg h₀] at this
theorem bytes_of (s : ByteArray) : Bytes (bytesOf s) := by
  intro b hb
  simp only [bytesOf, List.mem_map] at hb
  obtain ⟨u, _, rfl⟩ := hb
  have := u.toNat_lt
  omega
theorem bytesOf_nums (l : List Int) (h : Bytes l) : bytesOf (strOfNums l) = l := by
  unfold bytesOf
  rw [strOfNums_data, List.map_map]
  conv => rhs; rw [← List.map_id l]
  apply List.map_congr_left
  intro x hx
  have := h x hx
  simp only [Function.comp, id]
  rw [UInt8.toNat_ofNat_of_lt' (by have : x.toNat < 256 := by omega
                                   simpa [UInt8.size] using this)]
  omega
theorem bytesOf_append (a b : ByteArray) : bytesOf (a ++ b) = bytesOf a ++ bytesOf b := by
  simp [bytesOf, ByteArray.data_append]
theorem bytesOf_inj {a b : ByteArray} (h : bytesOf a = bytesOf b) : a = b := by
  have h' : a.data.toList = b.data.toList := by
    unfold bytesOf at h
    refine List.map_inj_right (fun x y hxy => ?_) |>.1 h
    have : x.toNat = y.toNat := by omega
    exact UInt8.toNat_inj.1 this
  exact ByteArray.ext (Array.ext' h')
theorem drop_at (s : ByteArray) (i : Int) (h0 : 0 ≤ i) (h1 : i < s.size) : (bytesOf s).drop i.toNat = bt s i :: (bytesOf s).drop (i + 1).toNat := by
  have hl : i.toNat < (bytesOf s).length := by rw [bytesOf_length]; omega
  rw [List.drop_eq_getElem_cons hl, show (i + 1).toNat = i.toNat + 1 by omega, ← rd_bytesOf, rd, List.getD_eq_getElem?_getD, List.getElem?_eq_getElem hl]
  rfl
theorem drop_end (s : ByteArray) (i : Int) (h1 : (s.size : Int) ≤ i) : (bytesOf s).drop i.toNat = [] := by
  rw [List.drop_eq_nil_iff, bytesOf_length]; omega
theorem get_loop (s : ByteArray) (hs : s.size ≤ 281474976710656) (at_ c tg : Int) (cons : Bool) (h0 : 0 ≤ at_) :
    ∀ (d k : Nat) (t i : Int) (n : Nat), 1 ≤ n → i = at_ + n → i + d = s.size → 0 ≤ t → t ≤ 268435455 → 2 * d + 1 ≤ k →
      ident_Get.l0 k s at_ t i c tg cons 0 = some (if (gT t n (n == 1) ((bytesOf s).drop i.toNat)).2.2 = 0 then (c, (gT t n (n == 1) ((bytesOf s).drop i.toNat)).2.1, cons, 0, at_ + ((gT t n (n == 1) ((bytesOf s).drop i.toNat)).1 : Int), 0)
        else (0, 0, false, 0, at_ + ((gT t n (n == 1) ((bytesOf s).drop i.toNat)).1 : Int), (gT t n (n == 1) ((bytesOf s).drop i.toNat)).2.2)) := by
  intro d
  induction d with
  | zero =>
    intro k t i n hn hi hd ht0 htm hk
    obtain ⟨k, rfl⟩ : ∃ m, k = m + 1 := ⟨k - 1, zz4⟩
    rw [drop_end s i zz4]
    rw [show gT t n (n == 1) [] = (n, 0, 2) from rfl]
    simp only [ident_Get.l0]
    rw [if_neg zz4]
    simp; omega
  | succ d ih =>
    intro k t i n hn hi hd ht0 htm hk
    obtain ⟨k, rfl⟩ : ∃ m, k = m + 2 := ⟨k - 2, zz4⟩
    have hb := bt_range s i
    have hi1 : wrap64 (i + 1) = i + 1 := w64 zz4 zz4
    have ha1 : wrap64 (at_ + 1) = at_ + 1 := w64 zz4 zz4
    have htt : Go.bits .or .i64 (wrap64 (t * 128)) (wrap64 (Go.bits .and .u8 (bt s i) 127)) = 128 * t + bt s i % 128 := by
      rw [u8_and127 _ zz4 zz4, w64 (x := t * 128) zz4 zz4, w64 (x := bt s i % 128) zz4 zz4, i64_or7 _ _ zz4 zz4 zz4 zz4 zz4]
      omega
    have e : ident_Get.l0 (k + 2) s at_ t i c tg cons 0 = ident_Get.j2 (k + 1) s at_ t i ((n == 1) && (bt s i == 128)) c tg cons 0 := by
      simp only [ident_Get.l0]
      rw [if_pos zz4, ha1]
      by_cases h : n = 1
      · subst h
        rw [if_pos zz4, if_pos zz4]; simp
      · rw [if_neg zz4, show (n == 1) = false by simpa using h]; rfl
    rw [e, drop_at s i zz4 zz4, gT_cons]
    simp only [ident_Get.j2]
    by_cases h1 : ((n == 1) && (bt s i == 128)) = true
    · rw [if_pos h1, if_pos h1]; simp; omega
    rw [if_neg h1, if_neg h1, if_pos zz4, if_pos zz4, htt]
    by_cases h2 : 128 * t + bt s i % 128 > 268435455
    · rw [if_pos h2, if_pos h2]; simp; omega
    rw [if_neg h2, if_neg h2]
    by_cases h3 : bt s i ≥ 128
    · rw [if_pos h3, if_pos h3, hi1, ih k _ (i + 1) (n + 1) zz4 zz4 zz4 zz4 zz4 zz4, show (n + 1 == 1) = false by simp; omega]
    rw [if_neg h3, if_neg h3]
    by_cases h4 : 128 * t + bt s i % 128 < 31
    · rw [if_pos h4, if_pos h4]; simp; omega
    · rw [if_neg h4, if_neg h4, hi1]; simp; omega
def gotten (at_ : Int) (r : Int × Int × Bool × Nat × Int) : Int × Int × Bool × Int × Int × Int := (r.1, r.2.1, r.2.2.1, 0, at_ + (r.2.2.2.1 : Int), r.2.2.2.2)
theorem get_ok (s : ByteArray) (hs : s.size ≤ 281474976710656) (at_ : Int) (h0 : 0 ≤ at_) (h1 : at_ ≤ s.size) (k : Nat) (hk : 2 * s.size + 3 ≤ k) :
    ident_Get.f k s at_ = some (gotten at_ (idg ((bytesOf s).drop at_.toNat))) := by
  obtain ⟨k, rfl⟩ : ∃ m, k = m + 1 := ⟨k - 1, zz4⟩
  unfold ident_Get.f
  rw [if_neg zz4, show decide (at_ > (s.size : Int)) = false by simp; omega]
  simp only [ident_Get.j0, Bool.false_eq_true, if_false]
  by_cases h2 : at_ = (s.size : Int)
  · rw [if_pos h2, drop_end s at_ zz4]; simp [idg, gotten]
  · have hb := bt_range s at_
    have ha1 : wrap64 (at_ + 1) = at_ + 1 := w64 zz4 zz4
    rw [if_neg h2, if_pos h0, if_pos zz4, drop_at s at_ h0 zz4, u8_and31 _ zz4 zz4, w64 (x := bt s at_ % 32) zz4 zz4, w64 (x := bt s at_ / 64) zz4 zz4, ha1, u8_bit32 _ zz4 zz4]
    by_cases h3 : bt s at_ % 32 < 31
    · rw [if_pos h3]; simp [idg, gotten, h3]
    · rw [if_neg h3, get_loop s hs at_ _ _ _ h0 (s.size - at_.toNat - 1) k 0 (at_ + 1) 1 zz4 rfl zz4 zz4 zz4 zz4]
      simp only [idg, if_neg h3, beq_self_eq_true]
      split
      · rename_i h; simp [gotten]
      · simp [gotten]
end Go.Proofs.Ytcfommconnlhgaa.BId
namespace Go.Proofs.Ytcfommconnlhgaa.BLen
open RowKit PC YtcfommconnlhgaaW.PrintWords YtcfommconnlhgaaW.PrintLast YtcfommconnlhgaaW.PrintMore
open Idm Lenm BId
set_option linter.unusedVariables false
theorem wraps_u64 (n : Int) (h₀ : 0 ≤ n) (h₁ : n < 2 ^ 64) : IntKind.u64.wrap n = n := by rw [IntKind.wrap_u64]; omega
theorem u64_or8 (x b : Int) (hx₀ : 0 ≤ x) (hx : x < 72057594037927936) (h0 : 0 ≤ b) (h1 : b < 256) : Go.bits .or .u64 (IntKind.u64.wrap (x * 256)) (IntKind.u64.wrap b) = 256 * x + b := by
 rw [wraps_u64 _ zz4 zz4, wraps_u64 _ h0 zz4, bits_join .u64 64 zz8 wraps_u64 8 _ _ zz4 zz4 zz4 h0 zz4 zz4]
 omega
theorem val_lt (l : List Int) (h : Bytes l) : val l < 256 ^ l.length := by
 revert h
 refine rev_ind (p := fun l => Bytes l → val l < 256 ^ l.length) (fun _ => by simp [val]) (fun l b ih h => ?_) l
 rw [val_snoc, List.length_append, List.length_singleton, Int.pow_succ]
 have := ih (fun x hx => h x (by simp [hx])); have := h b zz19
 omega
theorem val_take (l : List Int) (i : Nat) (h : i < l.length) : val (l.take (i + 1)) = 256 * val (l.take i) + l.getD i 0 := by
 rw [List.take_succ_eq_append_getElem h, val_snoc, List.getD_eq_getElem?_getD, List.getElem?_eq_getElem h]
 rfl
theorem val_take_lt (l : List Int) (hb : Bytes l) (i j : Nat) (hi : i ≤ j) (hj : i ≤ l.length) : 0 ≤ val (l.take i) ∧ val (l.take i) < 256 ^ j := by
 have hb' : Bytes (l.take i) := fun x hx => hb x (List.mem_of_mem_take hx)
 have h1 := val_lt _ hb'
 have h2 : (256 : Int) ^ (l.take i).length ≤ 256 ^ j := by
  have h3 : (l.take i).length ≤ j := by rw [List.length_take]; omega
  have h4 := Int.ofNat_le.2 (Nat.pow_le_pow_right (show 0 < 256 by omega) h3)
  rw [Int.natCast_pow, Int.natCast_pow] at h4
  exact h4
 exact ⟨val_nonneg _ hb', zz4⟩
theorem val_take7 (l : List Int) (hb : Bytes l) (i : Nat) (hi : i ≤ 7) (hj : i ≤ l.length) : 0 ≤ val (l.take i) ∧ val (l.take i) < 72057594037927936 := val_take_lt l hb i 7 hi hj
theorem val_take8 (l : List Int) (hb : Bytes l) (i : Nat) (hi : i ≤ 8) (hj : i ≤ l.length) : 0 ≤ val (l.take i) ∧ val (l.take i) < 18446744073709551616 := val_take_lt l hb i 8 hi hj
def tailR (at_ : Int) (size : Int) (c : Int) (r : List Int) : Int × Int × Int :=
 if (r.length : Int) < c then (0, size, 2)
 else if MaxLen < val (r.take c.toNat) then (0, at_ + c, 4)
 else (val (r.take c.toNat), at_ + 1 + c, 0)
theorem lget_loop (s : ByteArray) (hs : s.size ≤ 281474976710656) (at_ c : Int) (h0 : 0 ≤ at_) (hc1 : 1 ≤ c) (hc8 : c ≤ 8) (ha : at_ < s.size)
 (hf : ∀ (_ : 0 < ((bytesOf s).drop (at_ + 1).toNat).length), ¬ (((bytesOf s).drop (at_ + 1).toNat).getD 0 0 = 0 ∨ c = 1 ∧ ((bytesOf s).drop (at_ + 1).toNat).getD 0 0 < 128)) :
 ∀ (d k : Nat) (i : Nat), i + d = c.toNat → i ≤ ((bytesOf s).drop (at_ + 1).toNat).length → d < k →
  length_Get.l0 k s at_ c (val (((bytesOf s).drop (at_ + 1).toNat).take i)) c (i : Int) = some (tailR at_ s.size c ((bytesOf s).drop (at_ + 1).toNat)) := by
 obtain ⟨r, hr⟩ : ∃ r, r = (bytesOf s).drop (at_ + 1).toNat := ⟨_, rfl⟩
 have hrl : (r.length : Int) = s.size - (at_ + 1) := by rw [hr, List.length_drop, bytesOf_length]; omega
 have hrb : Bytes r := by rw [hr]; exact fun x hx => bytes_of s x (List.mem_of_mem_drop hx)
 rw [← hr] at hf ⊢
 have ha1 : Aside0 (wrap64 (at_ + 1) = at_ + 1) := ⟨w64 zz4 zz4⟩
 intro d
 induction d with
 | zero =>
   intro k i hi hl hk
   obtain ⟨k, rfl⟩ : ∃ m, k = m + 1 := ⟨k - 1, zz4⟩
   obtain rfl : i = c.toNat := by omega
   have hv := val_take8 r hrb c.toNat zz4 hl
   simp only [length_Get.l0]
   rw [if_neg zz4]
   unfold tailR MaxLen
   rw [if_neg (show ¬ (r.length : Int) < c by omega)]
   by_cases hm : val (r.take c.toNat) > 2305843009213693951
   ·
    rw [if_pos hm, if_pos zz4, w64 zz4 zz4]
   ·
    rw [if_neg hm, if_neg zz4, ha1.out, w64 (x := val (r.take c.toNat)) zz4 zz4, w64 zz4 zz4]
 | succ d ih =>
   intro k i hi hl hk
   obtain ⟨k, rfl⟩ : ∃ m, k = m + 1 := ⟨k - 1, zz4⟩
   have hon : Aside0 (wrap64 (wrap64 (at_ + 1) + (i : Int)) = at_ + 1 + i) := ⟨by rw [ha1.out]; exact w64 zz4 zz4⟩
   have hi1 : Aside0 (wrap64 ((i : Int) + 1) = ((i + 1 : Nat) : Int)) := ⟨by rw [w64 zz4 zz4]; omega⟩
   simp only [length_Get.l0, hon.out, hi1.out]
   rw [if_pos (show (i : Int) < c by omega)]
   by_cases he : at_ + 1 + (i : Int) ≥ s.size
   ·
    rw [if_pos he]
    unfold tailR
    rw [if_pos zz4]
   ·
    rw [if_neg he, if_pos zz4, if_pos zz4]
    have hil : i < r.length := by omega
    have hbt : bt s (at_ + 1 + (i : Int)) = r.getD i 0 := by
     rw [← rd_bytesOf, rd, hr, getD_drop]
     congr 1; omega
    have hbr := bt_range s (at_ + 1 + (i : Int))
    have hv := val_take7 r hrb i zz4 hl
    have hor : Go.bits .or .u64 (IntKind.u64.wrap (val (r.take i) * 256)) (IntKind.u64.wrap (bt s (at_ + 1 + (i : Int)))) = val (r.take (i + 1)) := by
     rw [u64_or8 _ _ hv.1 hv.2 zz4 zz4, val_take r i hil, hbt]
    rw [hor]
    have step := ih k (i + 1) zz4 hil zz4
    by_cases hi0 : (i : Int) = 0
    ·
     obtain rfl : i = 0 := by omega
     have hf' := hf zz4
     rw [if_pos hi0, hbt, if_neg (fun e => hf' (.inl e))]
     by_cases hc : c = 1
     ·
      rw [if_pos hc, if_neg (fun e => hf' (.inr ⟨hc, e⟩))]; exact step
     ·
      rw [if_neg hc]; exact step
    ·
     rw [if_neg hi0]; exact step
def gotL (at_ : Int) (r : Int × Nat × Int) : Int × Int × Int := (r.1, at_ + (r.2.1 : Int), r.2.2)
theorem tail_lg (at_ size : Int) (f : Int) (r : List Int) (hs : size = at_ + 1 + r.length) (h1 : ¬ f < 128) (h2 : ¬ (f = 128 ∨ 136 < f)) (h3 : ¬ (0 < r.length ∧ (r.getD 0 0 = 0 ∨ f = 129 ∧ r.getD 0 0 < 128))) :
 tailR at_ size (f - 128) r = gotL at_ (lg (f :: r)) := by
 simp only [lg]
 rw [if_neg h1, if_neg h2, if_neg h3]
 unfold tailR gotL
 split
 ·
  simp; omega
 split
 ·
  simp; omega
 ·
  simp; omega
theorem lget_ok (s : ByteArray) (hs : s.size ≤ 281474976710656) (at_ : Int) (h0 : 0 ≤ at_) (h1 : at_ ≤ s.size) (k : Nat) (hk : 14 ≤ k) :
 length_Get.f k s at_ = some (gotL at_ (lg ((bytesOf s).drop at_.toNat))) := by
 obtain ⟨k, rfl⟩ : ∃ m, k = m + 3 := ⟨k - 3, zz4⟩
 unfold length_Get.f
 rw [if_neg zz4, show decide (at_ > (s.size : Int)) = false by simp; omega]
 simp only [length_Get.j0, Bool.false_eq_true, if_false]
 by_cases h2 : at_ = (s.size : Int)
 ·
  rw [if_pos h2, drop_end s at_ zz4]; simp [lg, gotL]
 ·
  have hb := bt_range s at_
  have hl : at_ < s.size := by omega
  rw [if_neg h2, if_pos h0, if_pos hl, w64 (x := bt s at_) zz4 zz4, w64 (x := at_ + 1) zz4 zz4, drop_at s at_ h0 hl, w64 (x := bt s at_ - 128) zz4 zz4]
  by_cases h3 : bt s at_ < 128
  ·
   rw [if_pos h3]; simp [lg, gotL, h3]
  rw [if_neg h3]
  by_cases h4 : bt s at_ = 128 ∨ 136 < bt s at_
  ·
   have e : length_Get.j1 (k + 2) s at_ (bt s at_ - 128) true = some (0, at_, 4) := by simp only [length_Get.j1, if_true]
   have e2 : lg (bt s at_ :: (bytesOf s).drop (at_ + 1).toNat) = (0, 0, 4) := by simp only [lg]; rw [if_neg h3, if_pos h4]
   rw [e2]
   by_cases h5 : bt s at_ - 128 = 0
   ·
    rw [if_pos h5, e]; simp [gotL]
   ·
    rw [if_neg h5, show decide (bt s at_ - 128 > 8) = true by simp; omega, e]; simp [gotL]
  ·
   rw [if_neg zz4, show decide (bt s at_ - 128 > 8) = false by simp; omega]
   simp only [length_Get.j1, Bool.false_eq_true, if_false]
   have hrl : ((bytesOf s).drop (at_ + 1).toNat).length = s.size - (at_ + 1).toNat := by rw [List.length_drop, bytesOf_length]
   by_cases h6 : 0 < ((bytesOf s).drop (at_ + 1).toNat).length ∧ (((bytesOf s).drop (at_ + 1).toNat).getD 0 0 = 0 ∨ bt s at_ = 129 ∧ ((bytesOf s).drop (at_ + 1).toNat).getD 0 0 < 128)
   ·
    have hbt : bt s (at_ + 1) = ((bytesOf s).drop (at_ + 1).toNat).getD 0 0 := by
     rw [← rd_bytesOf, rd, getD_drop]; rfl
    have e2 : lg (bt s at_ :: (bytesOf s).drop (at_ + 1).toNat) = (0, 1, 4) := by simp only [lg]; rw [if_neg h3, if_neg h4, if_pos h6]
    rw [e2]
    have ha1 : wrap64 (at_ + 1) = at_ + 1 := w64 zz4 zz4
    have hon : wrap64 (wrap64 (at_ + 1) + 0) = at_ + 1 := by rw [ha1, Int.add_zero, ha1]
    simp only [length_Get.l0]
    rw [if_pos zz4, hon, if_neg zz4, if_pos zz4, if_pos zz4, if_pos trivial, hbt]
    rcases h6.2 with h7 | ⟨h7, h8⟩
    ·
     rw [if_pos h7]; simp [gotL]
    ·
     by_cases h9 : ((bytesOf s).drop (at_ + 1).toNat).getD 0 0 = 0
     ·
      rw [if_pos h9]; simp [gotL]
     ·
      rw [if_neg h9, if_pos zz4, if_pos h8]; simp [gotL]
   ·
    have := lget_loop s hs at_ (bt s at_ - 128) h0 zz4 zz4 hl (fun hp hq => h6 ⟨hp, by rcases hq with hq | ⟨hq, hq2⟩; exact .inl hq; exact .inr ⟨zz4, hq2⟩⟩) (bt s at_ - 128).toNat (k + 1) 0 zz4 (Nat.zero_le _) zz4
    rw [List.take_zero, show val [] = 0 from rfl, show ((0 : Nat) : Int) = 0 from rfl] at this
    rw [this, tail_lg at_ s.size (bt s at_) _ zz4 h3 h4 h6]
end Go.Proofs.Ytcfommconnlhgaa.BLen
namespace Go.Proofs.Ytcfommconnlhgaa.BHd
open RowKit PC YtcfommconnlhgaaW.PrintWords YtcfommconnlhgaaW.PrintLast YtcfommconnlhgaaW.PrintMore
open Idm Lenm Hdm BId BLen
set_option linter.unusedVariables false
def gotH (at_ : Int) (r : Int × Int × Bool × Int × Nat × Int) : Int × Int × Bool × Int × Int × Int := (r.1, r.2.1, r.2.2.1, r.2.2.2.1, at_ + (r.2.2.2.2.1 : Int), r.2.2.2.2.2)
theorem hg_yes (l : List Int) (h : (idg l).2.2.2.2 = 0) (h2 : (lg (l.drop (idg l).2.2.2.1)).2.2 = 0) : hg l = ((idg l).1, (idg l).2.1, (idg l).2.2.1, (lg (l.drop (idg l).2.2.2.1)).1, (idg l).2.2.2.1 + (lg (l.drop (idg l).2.2.2.1)).2.1, 0) := by
 unfold hg; rw [if_pos h, if_pos h2]
theorem hg_no (l : List Int) (h : (idg l).2.2.2.2 = 0) (h2 : ¬ (lg (l.drop (idg l).2.2.2.1)).2.2 = 0) : hg l = (0, 0, false, 0, (idg l).2.2.2.1 + (lg (l.drop (idg l).2.2.2.1)).2.1, (lg (l.drop (idg l).2.2.2.1)).2.2) := by
 unfold hg; rw [if_pos h, if_neg h2]
theorem hg_id (l : List Int) (h : ¬ (idg l).2.2.2.2 = 0) : hg l = (0, 0, false, 0, (idg l).2.2.2.1, (idg l).2.2.2.2) := by
 unfold hg; rw [if_neg h]
theorem hget_ok (s : ByteArray) (hs : s.size ≤ 281474976710656) (at_ : Int) (h0 : 0 ≤ at_) (h1 : at_ ≤ s.size) (k : Nat) (hk : 2 * s.size + 20 ≤ k) :
 head_Get.f k s at_ = some (gotH at_ (hg ((bytesOf s).drop at_.toNat))) := by
 obtain ⟨l, hl⟩ : ∃ l, l = (bytesOf s).drop at_.toNat := ⟨_, rfl⟩
 have hll : l.length = s.size - at_.toNat := by rw [hl, List.length_drop, bytesOf_length]
 have hp := (idg_err l).2.1
 unfold head_Get.f
 rw [get_ok s hs at_ h0 h1 k zz4, ← hl, Option.bind_some]
 by_cases h2 : (idg l).2.2.2.2 = 0
 ·
  rw [if_pos (show (gotten at_ (idg l)).2.2.2.2.2 = 0 from h2), show (gotten at_ (idg l)).2.2.2.2.1 = at_ + ((idg l).2.2.2.1 : Int) from rfl, lget_ok s hs _ zz4 zz4 k zz4, Option.bind_some]
  have e : (bytesOf s).drop (at_ + ((idg l).2.2.2.1 : Int)).toNat = l.drop (idg l).2.2.2.1 := by
   rw [show (at_ + ((idg l).2.2.2.1 : Int)).toNat = at_.toNat + (idg l).2.2.2.1 by omega, ← List.drop_drop, ← hl]
  rw [e]
  by_cases h3 : (lg (l.drop (idg l).2.2.2.1)).2.2 = 0
  ·
   rw [if_pos (show (gotL (at_ + ((idg l).2.2.2.1 : Int)) (lg (l.drop (idg l).2.2.2.1))).2.2 = 0 from h3), hg_yes l h2 h3]
   simp only [gotH, gotL, gotten]
   rw [show at_ + (((idg l).2.2.2.1 + (lg (l.drop (idg l).2.2.2.1)).2.1 : Nat) : Int) = at_ + ((idg l).2.2.2.1 : Int) + ((lg (l.drop (idg l).2.2.2.1)).2.1 : Int) by omega]
  ·
   rw [if_neg (show ¬ (gotL (at_ + ((idg l).2.2.2.1 : Int)) (lg (l.drop (idg l).2.2.2.1))).2.2 = 0 from h3), hg_no l h2 h3]
   simp only [gotH, gotL]
   rw [show at_ + (((idg l).2.2.2.1 + (lg (l.drop (idg l).2.2.2.1)).2.1 : Nat) : Int) = at_ + ((idg l).2.2.2.1 : Int) + ((lg (l.drop (idg l).2.2.2.1)).2.1 : Int) by omega]
 ·
  rw [if_neg (show ¬ (gotten at_ (idg l)).2.2.2.2.2 = 0 from h2), hg_id l h2]
  rfl
end Go.Proofs.Ytcfommconnlhgaa.BHd
