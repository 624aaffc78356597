/- order.Compare, walked: the plain law's order; the world stays. Conditions: texts of at most 1000000 bytes. -/
import Derived.Test.YtpiejdncoeldeaaMOrd
import Derived.Test.YtpiejdncoeldeaaBas
namespace Go.Proofs.Ytpiejdncoeldeaa.Cm
open Go.RowKit Go.Proofs.YtpiejdncoeldeaaW.PrintWords Go.Proofs.YtpiejdncoeldeaaW.PrintLast Go.Proofs.YtpiejdncoeldeaaW.PrintMore Go.Proofs.Ytpiejdncoeldeaa.Bs Go.Proofs.Ytpiejdncoeldeaa.Ord
attribute [local go_sem] max2_int min2_int max_two min_two max_three min_three max_four min_four
set_option linter.unusedVariables false
set_option linter.unusedSimpArgs false
abbrev sq (s : ByteArray) : Nat → Int := seq (bytesOf s)
theorem sq_in (s : ByteArray) (i : Nat) (h : i < s.size) : ((s[i]).toNat : Int) = sq s i := by
  have := bt_at s (i : Int) h
  simp only [Int.toNat_natCast] at this
  rw [this, bt_get, Int.toNat_natCast]; unfold sq seq; rw [List.getD_eq_getElem?_getD]
theorem sq_out (s : ByteArray) (i : Nat) (h : s.size ≤ i) : sq s i = 0 := by
  unfold sq seq; rw [List.getD_eq_getElem?_getD, List.getElem?_eq_none (by rw [bytesOf_length]; omega)]; rfl
theorem at_any (s : ByteArray) (i : Nat) (w : World) (hi : i ≤ 9000000000000000000) (hs : s.size ≤ 9000000000000000000) :
    Calls Try.prog 22 #[.string s, .int .i64 (i : Int)] w fun e w' => e = .returned (.int .u8 (sq s i)) ∧ w = w' := by
  by_cases h : i < s.size
  · have hd : decide ((i : Int) < (s.size : Int)) = true := decide_eq_true (by omega)
    have hb : ∀ h : i < s.size, ((s[i]'h).toNat : Int) = sq s i := sq_in s i
    go_enter Try.func22, Try.ntmps22
    go_wp2
    go_ret
    exact ⟨rfl, rfl⟩
  · have hd : decide ((i : Int) < (s.size : Int)) = false := decide_eq_false (by omega)
    have hz := sq_out s i (by omega)
    go_enter Try.func22, Try.ntmps22
    go_wp2
    go_ret
    exact ⟨by rw [hz]; rfl, rfl⟩
set_option maxRecDepth 100000 in
set_option maxHeartbeats 1000000 in
theorem cmp_any (a b : ByteArray) (c : Int) (w : World) (ha : a.size ≤ 1000000) (hb : b.size ≤ 1000000) (hc : Cmp (sq a) (sq b) c) :
    Calls Try.prog 9 #[.string a, .string b] w fun e w' => e = .returned (.int .i64 c) ∧ w = w' := by
  have HC := Aside0.mk hc
  obtain ⟨m, hm⟩ : ∃ m : Nat, (if a.size < b.size then b.size else a.size) = m := ⟨_, rfl⟩
  have HM := Aside0.mk (show a.size ≤ m ∧ b.size ≤ m ∧ m ≤ 1000000 by split at hm <;> omega)
  clear hc
  have hmi : (if a.size < b.size then (b.size : Int) else (a.size : Int)) = (m : Int) := by rw [← hm]; split <;> rfl
  clear hm ha hb
  go_enter Try.func9, Try.ntmps9
  go_wp2
  clear hmi
  go_loopg [13] m (fun gk v13 wr => ∃ i : Nat, v13 = .int .i64 (i : Int) ∧ Aside0 (i ≤ m ∧ m - i ≤ gk) ∧ Aside0 (∀ j, j < i → sq a j = sq b j) ∧ w = wr)
  case atStart => exact ⟨0, rfl, ⟨Nat.zero_le _, by omega⟩, ⟨fun j h => absurd h (by omega)⟩, rfl⟩
  case round =>
    obtain ⟨i, rfl, HI, HJ, rfl⟩ := hrel
    have hi0 : (0 : Int) ≤ (i : Int) := by omega
    have him : (i : Int) ≤ 1000000 := by have := HI.out.1; have := HM.out; omega
    by_cases hlt : i < m
    · have hd : decide (i < m) = true := decide_eq_true hlt
      obtain ⟨x, hx⟩ : ∃ x, sq a i = x := ⟨_, rfl⟩
      obtain ⟨y, hy⟩ : ∃ y, sq b i = y := ⟨_, rfl⟩
      have HX := Aside0.mk hx
      have HY := Aside0.mk hy
      have HS := Aside0.mk (show a.size ≤ 9000000000000000000 ∧ b.size ≤ 9000000000000000000 by have := HM.out; omega)
      have HLT := Aside0.mk hlt
      clear hx hy hlt
      by_cases h1 : x < y
      · have k1 : decide (x < y) = true := decide_eq_true h1
        obtain rfl := HC.out.uniq (.inr (.inl ⟨rfl, i, by rw [HX.out, HY.out]; exact h1, HJ.out⟩))
        clear h1
        go_wp2_with (first | (go_at_call 22; first | ((with_reducible refine (at_any a i _ (by omega) (by exact HS.out.1)).mono ?_); rintro e w' ⟨rfl, rfl⟩; rw [HX.out]) | ((with_reducible refine (at_any b i _ (by omega) (by exact HS.out.2)).mono ?_); rintro e w' ⟨rfl, rfl⟩; rw [HY.out])))
        go_ret
        exact ⟨rfl, rfl⟩
      have k1 : decide (x < y) = false := decide_eq_false h1
      by_cases h2 : y < x
      · have k2 : decide (y < x) = true := decide_eq_true h2
        obtain rfl := HC.out.uniq (.inr (.inr ⟨rfl, i, by rw [HX.out, HY.out]; exact h2, HJ.out⟩))
        clear h1 h2
        go_wp2_with (first | (go_at_call 22; first | ((with_reducible refine (at_any a i _ (by omega) (by exact HS.out.1)).mono ?_); rintro e w' ⟨rfl, rfl⟩; rw [HX.out]) | ((with_reducible refine (at_any b i _ (by omega) (by exact HS.out.2)).mono ?_); rintro e w' ⟨rfl, rfl⟩; rw [HY.out])))
        go_ret
        exact ⟨rfl, rfl⟩
      have k2 : decide (y < x) = false := decide_eq_false h2
      have HE := Aside0.mk (show x = y by omega)
      clear h1 h2
      go_wp2_with (first | (go_at_call 22; first | ((with_reducible refine (at_any a i _ (by omega) (by exact HS.out.1)).mono ?_); rintro e w' ⟨rfl, rfl⟩; rw [HX.out]) | ((with_reducible refine (at_any b i _ (by omega) (by exact HS.out.2)).mono ?_); rintro e w' ⟨rfl, rfl⟩; rw [HY.out])))
      go_roundg (gk - 1)
      case measure => have := HI.out; have := HLT.out; omega
      case rel => exact ⟨i + 1, by go_num, ⟨HLT.out, by have := HI.out; omega⟩, ⟨fun j hj => by
        by_cases h : j = i
        · subst h; rw [HX.out, HY.out, HE.out]
        · exact HJ.out j (by omega)⟩, rfl⟩
    · have hd : decide (i < m) = false := decide_eq_false hlt
      obtain rfl := HC.out.uniq (.inl ⟨rfl, fun j => by
        by_cases h : j < i
        · exact HJ.out j h
        · rw [sq_out a j (by have := HM.out; omega), sq_out b j (by have := HM.out; omega)]⟩)
      go_wp2
      go_ret
      exact ⟨rfl, rfl⟩
theorem cmp_nums {a b : List Int} {c : Int} (hb : Bytes a ∧ Bytes b ∧ a.length ≤ 1000000 ∧ b.length ≤ 1000000) (hc : Cmp (seq a) (seq b) c) (w : World) :
    Calls Try.prog 9 #[.string (strOfNums a), .string (strOfNums b)] w fun e w' => e = .returned (.int .i64 c) ∧ w = w' := by
  have h1 : ∀ l : List Int, Bytes l → (strOfNums l).size = l.length := fun l h => by rw [← bytesOf_length, bytesOf_nums l h]
  refine cmp_any _ _ c w (by rw [h1 a hb.1]; exact hb.2.2.1) (by rw [h1 b hb.2.1]; exact hb.2.2.2) ?_
  unfold sq
  rw [bytesOf_nums a hb.1, bytesOf_nums b hb.2.1]
  exact hc
end Go.Proofs.Ytpiejdncoeldeaa.Cm
