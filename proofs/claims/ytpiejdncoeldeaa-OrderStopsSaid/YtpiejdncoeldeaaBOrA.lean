/- What order.Compare and the reference's Compare come to: the plain law's order. -/
import Derived.Test.YtpiejdncoeldeaaMOrd
import Derived.Test.YtpiejdncoeldeaaBs
import Derived.Test.YtpiejdncoeldeaaPAx1
namespace Go.Proofs.Ytpiejdncoeldeaa.BOrd
open Go.RowKit Go.Proofs.Ytpiejdncoeldeaa.PA Go.Proofs.YtpiejdncoeldeaaW.PrintWords Go.Proofs.YtpiejdncoeldeaaW.PrintLast Go.Proofs.YtpiejdncoeldeaaW.PrintMore
open Go.Proofs.Ytpiejdncoeldeaa.Bs Go.Proofs.Ytpiejdncoeldeaa.Ord
set_option linter.unusedVariables false

theorem at_eq (s : ByteArray) (i : Nat) : order_at.f s (i : Int) = some (seq (bytesOf s) i) := by
  unfold order_at.f seq
  by_cases h : (i : Int) < (s.size : Int)
  · rw [if_pos h, if_pos (by omega), bt_get, Int.toNat_natCast]
  · rw [if_neg h, List.getD_eq_getElem?_getD, List.getElem?_eq_none (by rw [bytesOf_length]; omega)]; rfl
theorem cmp_l0 (a b : ByteArray) (m : Nat) (ha : a.size ≤ m) (hb : b.size ≤ m) (hm : m ≤ 1000) : ∀ (d k i : Nat), i + d = m → d + 1 ≤ k → (∀ j, j < i → seq (bytesOf a) j = seq (bytesOf b) j) →
    ∃ r, order_Compare.l0 k a b (m : Int) (i : Int) = some r ∧ Cmp (seq (bytesOf a)) (seq (bytesOf b)) r := by
  intro d
  induction d with
  | zero =>
    intro k i hi hk h
    obtain ⟨k, rfl⟩ : ∃ q, k = q + 1 := ⟨k - 1, by omega⟩
    refine ⟨0, ?_, .inl ⟨rfl, fun j => ?_⟩⟩
    · rw [order_Compare.l0, if_neg (by omega)]
    · by_cases hj : j < i
      · exact h j hj
      · unfold seq
        rw [List.getD_eq_getElem?_getD, List.getElem?_eq_none (by rw [bytesOf_length]; omega), List.getD_eq_getElem?_getD, List.getElem?_eq_none (by rw [bytesOf_length]; omega)]
  | succ d ih =>
    intro k i hi hk h
    obtain ⟨k, rfl⟩ : ∃ q, k = q + 1 := ⟨k - 1, by omega⟩
    rw [order_Compare.l0, if_pos (by omega), at_eq, at_eq]
    simp only [Option.bind_some]
    by_cases h1 : seq (bytesOf a) i < seq (bytesOf b) i
    · rw [if_pos h1]; exact ⟨-1, rfl, .inr (.inl ⟨rfl, i, h1, h⟩)⟩
    rw [if_neg h1]
    by_cases h2 : seq (bytesOf a) i > seq (bytesOf b) i
    · rw [if_pos h2]; exact ⟨1, rfl, .inr (.inr ⟨rfl, i, h2, h⟩)⟩
    rw [if_neg h2, w64 (by omega) (by omega), show ((i : Int) + 1) = ((i + 1 : Nat) : Int) by omega]
    refine ih k (i + 1) (by omega) (by omega) (fun j hj => ?_)
    rcases (by omega : j < i ∨ j = i) with h3 | rfl
    · exact h j h3
    · omega
theorem cmp_eq (a b : ByteArray) (ha : a.size ≤ 500) (hb : b.size ≤ 500) (k : Nat) (hk : 600 ≤ k) : ∃ r, order_Compare.f k a b = some r ∧ Cmp (seq (bytesOf a)) (seq (bytesOf b)) r := by
  unfold order_Compare.f
  have hm : mx (a.size : Int) (b.size : Int) = ((Nat.max a.size b.size : Nat) : Int) := by
    unfold mx
    have : Nat.max a.size b.size = if a.size ≤ b.size then b.size else a.size := rfl
    rw [this]
    split <;> split <;> omega
  rw [hm]
  exact cmp_l0 a b (Nat.max a.size b.size) (Nat.le_max_left _ _) (Nat.le_max_right _ _) (Nat.max_le.2 ⟨by omega, by omega⟩) _ k 0 (Nat.zero_add _) (by have := Nat.max_le.2 ⟨ha, hb⟩; have h2 : Nat.max a.size b.size ≤ 500 := this; omega) (fun j hj => by omega)
theorem nul : bytesOf (⟨#[0]⟩ : ByteArray) = [0] := by decide
theorem bytesLess_map : ∀ (x y : List UInt8), Op.bytesLess x y = Ord.bl (x.map fun b => (b.toNat : Int)) (y.map fun b => (b.toNat : Int))
  | _, [] => by simp [Op.bytesLess, Ord.bl]
  | [], _ :: _ => rfl
  | a :: x, b :: y => by
    have h1 : decide (a < b) = decide ((a.toNat : Int) < (b.toNat : Int)) := by
      rw [decide_eq_decide, UInt8.lt_iff_toNat_lt]; omega
    have h2 : (a == b) = ((a.toNat : Int) == (b.toNat : Int)) := by
      rw [Bool.eq_iff_iff, beq_iff_eq, beq_iff_eq, ← UInt8.toNat_inj]; omega
    simp only [Op.bytesLess, List.map_cons, Ord.bl]
    rw [h1, h2, bytesLess_map x y]
theorem less_bl (s t : ByteArray) : Op.bytesLess s.toList t.toList = Ord.bl (bytesOf s) (bytesOf t) := by
  rw [bytesLess_map, Lib.toList_data, Lib.toList_data]; rfl
theorem ref_l1 (a : ByteArray) (ha : a.size ≤ 500) : ∀ (d k : Nat) (b : ByteArray), b.size + d = a.size → d + 1 ≤ k → ∃ r, gantletref16_Compare.l1 k a b = some r ∧ Cmp (seq (bytesOf a)) (seq (bytesOf b)) r := by
  intro d
  induction d with
  | zero =>
    intro k b hb hk
    obtain ⟨k, rfl⟩ : ∃ q, k = q + 1 := ⟨k - 1, by omega⟩
    have := bl_cmp (bytesOf a) (bytesOf b) (by rw [bytesOf_length, bytesOf_length]; omega)
    rw [gantletref16_Compare.l1, if_neg (by omega), less_bl, less_bl]
    refine ⟨_, ?_, this⟩
    split
    · rfl
    · split <;> rfl
  | succ d ih =>
    intro k b hb hk
    obtain ⟨k, rfl⟩ : ∃ q, k = q + 1 := ⟨k - 1, by omega⟩
    rw [gantletref16_Compare.l1, if_pos (by omega), if_pos (by omega)]
    obtain ⟨r, h1, h2⟩ := ih k (b ++ (⟨#[0]⟩ : ByteArray)) (by rw [ByteArray.size_append]; show b.size + 1 + d = a.size; omega) (by omega)
    rw [bytesOf_append, nul, seq_zero] at h2
    exact ⟨r, h1, h2⟩
theorem ref_l0 (b : ByteArray) (hb : b.size ≤ 500) : ∀ (d k : Nat) (a : ByteArray), a.size ≤ 500 → (a.size + d = b.size ∨ (d = 0 ∧ b.size ≤ a.size)) → d + 502 ≤ k → ∃ r, gantletref16_Compare.l0 k a b = some r ∧ Cmp (seq (bytesOf a)) (seq (bytesOf b)) r := by
  intro d
  induction d with
  | zero =>
    intro k a ha hd hk
    obtain ⟨k, rfl⟩ : ∃ q, k = q + 1 := ⟨k - 1, by omega⟩
    rw [gantletref16_Compare.l0, if_neg (by omega)]
    exact ref_l1 a ha (a.size - b.size) k b (by omega) (by omega)
  | succ d ih =>
    intro k a ha hd hk
    obtain ⟨k, rfl⟩ : ∃ q, k = q + 1 := ⟨k - 1, by omega⟩
    rw [gantletref16_Compare.l0, if_pos (by omega), if_pos (by omega)]
    obtain ⟨r, h1, h2⟩ := ih k (a ++ (⟨#[0]⟩ : ByteArray)) (by rw [ByteArray.size_append]; show a.size + 1 ≤ 500; omega) (by rw [ByteArray.size_append]; left; show a.size + 1 + d = b.size; omega) (by omega)
    rw [bytesOf_append, nul, seq_zero] at h2
    exact ⟨r, h1, h2⟩
theorem ref_eq (a b : ByteArray) (ha : a.size ≤ 500) (hb : b.size ≤ 500) (k : Nat) (hk : 1100 ≤ k) : ∃ r, gantletref16_Compare.f k a b = some r ∧ Cmp (seq (bytesOf a)) (seq (bytesOf b)) r := by
  unfold gantletref16_Compare.f
  exact ref_l0 b hb (b.size - a.size) k a ha (by omega) (by omega)
end Go.Proofs.Ytpiejdncoeldeaa.BOrd
