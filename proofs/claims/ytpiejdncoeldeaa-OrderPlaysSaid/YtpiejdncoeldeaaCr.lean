/- The reference's Compare, walked: the plain law's order; the world stays. Conditions: texts of at most 1000000 bytes. -/
import Derived.Test.YtpiejdncoeldeaaCm
namespace Go.Proofs.Ytpiejdncoeldeaa.Cm
open Go.RowKit Go.Proofs.YtpiejdncoeldeaaW.PrintWords Go.Proofs.YtpiejdncoeldeaaW.PrintLast Go.Proofs.YtpiejdncoeldeaaW.PrintMore Go.Proofs.Ytpiejdncoeldeaa.Bs Go.Proofs.Ytpiejdncoeldeaa.Ord
set_option linter.unusedVariables false
set_option linter.unusedSimpArgs false
theorem bytesLess_turn : ∀ (x y : List UInt8), (Op.bytesLess x y || x == y) = !Op.bytesLess y x
  | [], [] => rfl
  | [], _ :: _ => rfl
  | _ :: _, [] => rfl
  | a :: x, b :: y => by
    have ih := bytesLess_turn x y
    simp only [Op.bytesLess, List.cons_beq_cons]
    rcases Nat.lt_trichotomy a.toNat b.toNat with h | h | h
    · have h1 : a < b := UInt8.lt_iff_toNat_lt.2 h
      have h2 : ¬ b < a := fun hc => by have := UInt8.lt_iff_toNat_lt.1 hc; omega
      have h3 : ¬ b = a := fun hc => by subst hc; omega
      have h4 : ¬ a = b := fun hc => by subst hc; omega
      simp [h1, h2, h3, h4]
    · obtain rfl := UInt8.toNat_inj.1 h
      simp [ih]
    · have h1 : ¬ a < b := fun hc => by have := UInt8.lt_iff_toNat_lt.1 hc; omega
      have h2 : b < a := UInt8.lt_iff_toNat_lt.2 h
      have h4 : ¬ a = b := fun hc => by subst hc; omega
      simp [h1, h2, h4]
theorem bin_gtr (t : TypeId) (a b : ByteArray) : binOp .gtr t (.string a) (.string b) = pure (.bool (Op.bytesLess b.toList a.toList)) := by rw [← Bool.not_not (Op.bytesLess b.toList a.toList), ← bytesLess_turn]; simp [binOp, Op.stringOp]
attribute [local go_sem] bin_gtr
theorem bytesLess_map : ∀ (x y : List UInt8), Op.bytesLess x y = Ord.bl (x.map fun b => (b.toNat : Int)) (y.map fun b => (b.toNat : Int))
  | _, [] => by simp [Op.bytesLess, Ord.bl]
  | [], _ :: _ => rfl
  | a :: x, b :: y => by
    have h1 : decide (a < b) = decide ((a.toNat : Int) < (b.toNat : Int)) := by
      rw [decide_eq_decide, UInt8.lt_iff_toNat_lt]; omega
    have h2 : (a == b) = ((a.toNat : Int) == (b.toNat : Int)) := by
      rw [Bool.eq_iff_iff, beq_iff_eq, beq_iff_eq, ← UInt8.toNat_inj]; omega
    simp only [Op.bytesLess, List.map_cons, Ord.bl]
    rw [h1, h2, bytesLess_map x y]
theorem less_bl (s t : ByteArray) : Op.bytesLess s.toList t.toList = Ord.bl (bytesOf s) (bytesOf t) := by
  rw [bytesLess_map, Lib.toList_data, Lib.toList_data]; rfl
theorem sq_zero (s : ByteArray) : sq (s ++ (⟨#[0]⟩ : ByteArray)) = sq s := by
  unfold sq
  have e : bytesOf (s ++ (⟨#[0]⟩ : ByteArray)) = bytesOf s ++ [0] := by simp [bytesOf]
  rw [e, seq_zero]
theorem size_zero (s : ByteArray) : (s ++ (⟨#[0]⟩ : ByteArray)).size = s.size + 1 := by rw [ByteArray.size_append]; rfl
set_option maxRecDepth 100000 in
set_option maxHeartbeats 1000000 in
theorem ref_cmp_any (a b : ByteArray) (c : Int) (w : World) (ha : a.size ≤ 1000000) (hb : b.size ≤ 1000000) (hc : Cmp (sq a) (sq b) c) :
    Calls Try.prog 10 #[.string a, .string b] w fun e w' => e = .returned (.int .i64 c) ∧ w = w' := by
  have HC := Aside0.mk hc
  have HA := Aside0.mk ha
  have HB := Aside0.mk hb
  clear hc ha hb
  go_enter Try.func10, Try.ntmps10
  go_wp2
  go_loopg [0] b.size (fun gk v0 wr => ∃ x : ByteArray, v0 = .string x ∧ Aside0 (sq x = sq a ∧ x.size ≤ 1000000 ∧ b.size - x.size ≤ gk) ∧ w = wr)
  case atStart => exact ⟨a, rfl, ⟨rfl, HA.out, by omega⟩, rfl⟩
  case round =>
    obtain ⟨x, rfl, HX, rfl⟩ := hrel
    by_cases hlt : x.size < b.size
    · have hd : decide (x.size < b.size) = true := decide_eq_true hlt
      have hz := size_zero x
      have hq : x.size + 1 ≤ 9223372036854775807 := by have := HB.out; omega
      go_wp2
      go_roundg (gk - 1)
      case measure => have := HX.out; omega
      case rel => exact ⟨_, rfl, ⟨(sq_zero x).trans HX.out.1, by rw [hz]; have := HB.out; omega, by rw [hz]; have := HX.out; omega⟩, rfl⟩
    have hd : decide (x.size < b.size) = false := decide_eq_false hlt
    go_wp2
    go_loopg [1] x.size (fun gk v1 wr => ∃ y : ByteArray, v1 = .string y ∧ Aside0 (sq y = sq b ∧ y.size ≤ x.size ∧ x.size - y.size ≤ gk) ∧ w = wr)
    case atStart => exact ⟨b, rfl, ⟨rfl, by omega, by omega⟩, rfl⟩
    case round =>
      clear hd
      obtain ⟨y, rfl, HY, rfl⟩ := hrel
      by_cases hly : y.size < x.size
      · have hd : decide (y.size < x.size) = true := decide_eq_true hly
        have hz := size_zero y
        have hq : y.size + 1 ≤ 9223372036854775807 := by have := HX.out; omega
        go_wp2
        go_roundg (gk - 1)
        case measure => have := HY.out; omega
        case rel => exact ⟨_, rfl, ⟨(sq_zero y).trans HY.out.1, by rw [hz]; omega, by rw [hz]; have := HY.out; omega⟩, rfl⟩
      have hd : decide (y.size < x.size) = false := decide_eq_false hly
      have h1 := bl_cmp (bytesOf x) (bytesOf y) (by rw [bytesOf_length, bytesOf_length]; have := HY.out; omega)
      rw [← less_bl, ← less_bl] at h1
      obtain ⟨p, hp⟩ : ∃ p, Op.bytesLess x.toList y.toList = p := ⟨_, rfl⟩
      obtain ⟨q, hq⟩ : ∃ q, Op.bytesLess y.toList x.toList = q := ⟨_, rfl⟩
      rw [hp, hq] at h1
      have h2 : Cmp (sq a) (sq b) (if p = true then -1 else if q = true then 1 else 0) := by rw [← HX.out.1, ← HY.out.1]; exact h1
      have h3 := HC.out.uniq h2
      have H3 := Aside0.mk h3
      clear h1 h2 h3 hly
      cases p <;> cases q
      all_goals
        go_wp2
        go_ret
        exact ⟨by rw [H3.out]; rfl, rfl⟩
end Go.Proofs.Ytpiejdncoeldeaa.Cm
