/- Small lemmas on numbers, bytes and texts that the plain laws of all layers use. -/
import Derived.Test.YtpiejdncoeldeaaWMore
import Derived.Laws.BitsLemmas
import Derived.Lib.Bytes
namespace Go.Proofs.Ytpiejdncoeldeaa.Bs
open Go.RowKit Go.Proofs.YtpiejdncoeldeaaW.PrintWords Go.Proofs.YtpiejdncoeldeaaW.PrintLast Go.Proofs.YtpiejdncoeldeaaW.PrintMore
set_option linter.unusedVariables false

def Bytes (l : List Int) : Prop := ∀ b, b ∈ l → 0 ≤ b ∧ b < 256
theorem w64 {x : Int} (h0 : -9223372036854775808 ≤ x) (h1 : x ≤ 9223372036854775807) : wrap64 x = x := by unfold wrap64; omega
theorem wraps_i64 (n : Int) (h₀ : 0 ≤ n) (h₁ : n < 2 ^ 62) : IntKind.i64.wrap n = n := by rw [IntKind.wrap_i64]; omega
theorem wf64 {x : Int} (h : (Lit.int .i64 x).wf = true) : -9223372036854775808 ≤ x ∧ x ≤ 9223372036854775807 := by
  simpa [Lit.wf, IntKind.min, IntKind.max, IntKind.signed, IntKind.bits] using h
theorem wfu8 {x : Int} (h : (Lit.int .u8 x).wf = true) : 0 ≤ x ∧ x ≤ 255 := by
  simpa [Lit.wf, IntKind.min, IntKind.max, IntKind.signed, IntKind.bits] using h
/-- A byte set beneath a multiple of 256, of whatever sign. -/
theorem i64_or8 (y b : Int) (h0 : -36028797018963968 ≤ y) (h1 : y < 36028797018963968) (hb0 : 0 ≤ b) (hb : b < 256) : bits .or .i64 (256 * y) b = 256 * y + b := by
  obtain ⟨c, rfl⟩ := Int.eq_ofNat_of_zero_le hb0
  have hc : c < 256 := by omega
  obtain ⟨a, ha⟩ := Int.eq_ofNat_of_zero_le (show 0 ≤ (256 * y) % 18446744073709551616 from Int.emod_nonneg _ (by decide))
  have ha2 : a < 18446744073709551616 := by have := Int.emod_lt_of_pos (256 * y) (show (0 : Int) < 18446744073709551616 by decide); omega
  have ha8 : a % 256 = 0 := by omega
  have e : BitVec.ofInt 64 (256 * y) = BitVec.ofNat 64 a := by
    apply BitVec.eq_of_toNat_eq
    simp only [BitVec.toNat_ofInt, BitVec.toNat_ofNat]
    rw [show ((2 ^ 64 : Nat) : Int) = 18446744073709551616 from rfl, ha]
    simp; omega
  have h2 : (BitVec.ofInt 64 (256 * y) ||| BitVec.ofInt 64 (c : Int)).toNat = a + c := by
    rw [e, BitVec.ofInt_natCast, BitVec.toNat_or, BitVec.toNat_ofNat, BitVec.toNat_ofNat, Nat.mod_eq_of_lt (show a < 2 ^ 64 from ha2), Nat.mod_eq_of_lt (show c < 2 ^ 64 by omega)]
    have hq : a = 2 ^ 8 * (a / 2 ^ 8) := by omega
    rw [hq, ← Nat.two_pow_add_eq_or_of_lt (show c < 2 ^ 8 from hc) (a / 2 ^ 8)]
  show IntKind.i64.wrap ((BitVec.ofInt 64 (256 * y) ||| BitVec.ofInt 64 (c : Int)).toNat : Int) = _
  rw [h2, IntKind.wrap_i64]
  omega

theorem bytes_of (s : ByteArray) : Bytes (bytesOf s) := by
  intro b hb
  simp only [bytesOf, List.mem_map] at hb
  obtain ⟨u, _, rfl⟩ := hb
  have := u.toNat_lt
  omega
theorem bytesOf_nums (l : List Int) (h : Bytes l) : bytesOf (strOfNums l) = l := by
  unfold bytesOf
  rw [strOfNums_data, List.map_map]
  conv => rhs; rw [← List.map_id l]
  apply List.map_congr_left
  intro x hx
  have := h x hx
  simp only [Function.comp, id]
  rw [UInt8.toNat_ofNat_of_lt' (by have : x.toNat < 256 := by omega
                                   simpa [UInt8.size] using this)]
  omega
theorem bytesOf_append (a b : ByteArray) : bytesOf (a ++ b) = bytesOf a ++ bytesOf b := by
  simp [bytesOf, ByteArray.data_append]
theorem bytesOf_inj {a b : ByteArray} (h : bytesOf a = bytesOf b) : a = b := by
  have h' : a.data.toList = b.data.toList := by
    unfold bytesOf at h
    refine List.map_inj_right (fun x y hxy => ?_) |>.1 h
    have : x.toNat = y.toNat := by omega
    exact UInt8.toNat_inj.1 this
  exact ByteArray.ext (Array.ext' h')
theorem bytesOf_front (s : ByteArray) (n : Nat) : bytesOf (s.extract 0 n) = (bytesOf s).take n := by
  simp [bytesOf, ByteArray.data_extract, List.map_take]
theorem nums_bytesOf (s : ByteArray) : strOfNums (bytesOf s) = s := bytesOf_inj (bytesOf_nums _ (bytes_of s))
theorem toList_beq (a b : ByteArray) : (a.toList == b.toList) = (bytesOf a == bytesOf b) := by
  rw [Bool.eq_iff_iff, beq_iff_eq, beq_iff_eq, Lib.toList_data, Lib.toList_data]
  constructor
  · intro h; simp [bytesOf, h]
  · intro h; rw [bytesOf_inj h]
theorem drop_at (s : ByteArray) (i : Int) (h0 : 0 ≤ i) (h1 : i < s.size) : (bytesOf s).drop i.toNat = bt s i :: (bytesOf s).drop (i + 1).toNat := by
  have hl : i.toNat < (bytesOf s).length := by rw [bytesOf_length]; omega
  rw [List.drop_eq_getElem_cons hl, show (i + 1).toNat = i.toNat + 1 by omega, ← rd_bytesOf, rd, List.getD_eq_getElem?_getD, List.getElem?_eq_getElem hl]
  rfl
theorem drop_end (s : ByteArray) (i : Int) (h1 : (s.size : Int) ≤ i) : (bytesOf s).drop i.toNat = [] := by
  rw [List.drop_eq_nil_iff, bytesOf_length]; omega
theorem bt_get (s : ByteArray) (i : Int) : bt s i = (bytesOf s).getD i.toNat 0 := by rw [← rd_bytesOf]; rfl
theorem bt_nums (l : List Int) (h : Bytes l) (i : Int) : bt (strOfNums l) i = l.getD i.toNat 0 := by rw [bt_get, bytesOf_nums l h]
theorem bytesOf_size (s : ByteArray) : (s.size : Int) = ((bytesOf s).length : Int) := by rw [bytesOf_length]
end Go.Proofs.Ytpiejdncoeldeaa.Bs
