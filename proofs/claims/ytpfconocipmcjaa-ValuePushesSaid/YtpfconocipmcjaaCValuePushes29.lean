/- What the row of ValuePushes stands on, made small by a program of this session (pack.py). -/
import Derived.Test.YtpfconocipmcjaaCValuePushes2
import Derived.Test.YtpfconocipmcjaaCValuePushes4
namespace Go.Proofs.Ytpfconocipmcjaa.PC
open RowKit YtpfconocipmcjaaW.PrintWords YtpfconocipmcjaaW.PrintLast YtpfconocipmcjaaW.PrintMore
attribute [local go_sem] max2_int min2_int max_two min_two max_three min_three max_four min_four
set_option linter.unusedVariables false
set_option linter.unusedSimpArgs false
mutual
def gantletref11_Wrong.l0 : Nat → Int → ByteArray → Int → Option (Int)
 | 0, _, _, _ => none
 | k + 1, x0, x1, x5 => if x5 < (x1.size : Int) then (if 0 ≤ x5 then (if (bt x1 x5) = 128 then (if x5 = 0 then (gantletref11_Wrong.j1 k x0 x1 x5 true) else (if 0 ≤ (wrap64 (x5 - 1)) then (if (wrap64 (x5 - 1)) < (x1.size : Int) then (gantletref11_Wrong.j1 k x0 x1 x5 (decide ((bt x1 (wrap64 (x5 - 1))) < 128))) else (none)) else (none))) else (gantletref11_Wrong.j1 k x0 x1 x5 false)) else (none)) else (some (-1))
def gantletref11_Wrong.j1 : Nat → Int → ByteArray → Int → Bool → Option (Int)
 | 0, _, _, _, _ => none
 | k + 1, x0, x1, x5, x28 => if x28 = true then (some (wrap64 (x5 + 1))) else (if x5 = (wrap64 (x0 - 1)) then (if 0 ≤ x5 then (if x5 < (x1.size : Int) then (if (bt x1 x5) > 127 then (some (wrap64 (x5 + 1))) else (gantletref11_Wrong.l0 k x0 x1 (wrap64 (x5 + 1)))) else (none)) else (none)) else (gantletref11_Wrong.l0 k x0 x1 (wrap64 (x5 + 1))))
end
def gantletref11_Wrong.f (k : Nat) (a0 : Int) (a1 : ByteArray) : Option (Int) := if a0 < 1 then (some 0) else (gantletref11_Wrong.l0 k a0 a1 0)
set_option maxHeartbeats 8000000 in
set_option maxRecDepth 100000 in
theorem gantletref11_Wrong.calls (k : Nat) (a0 : Int) (a1 : ByteArray) (r : Int) (w : World) (h : gantletref11_Wrong.f k a0 a1 = some r) :
 Calls Try.prog 30 #[.int .i64 a0, .string a1] w fun e w' => e = .returned (.int .i64 r) ∧ Drawn0 w w' := by
 have H : (if a0 < 1 then (some 0) else (gantletref11_Wrong.l0 k a0 a1 0)) = some r := h
 clear h
 by_cases c3 : a0 < 1
 ·
  rw [if_pos c3] at H
  have c3b0 := decide_eq_true c3
  clear c3
  obtain rfl := Option.some.inj H
  go_enter Try.func30, Try.ntmps30
  go_wp2
  go_ret
  exact ⟨zz0, zz1⟩
 ·
  rw [if_neg c3] at H
  have c3b0 := decide_eq_false c3
  clear c3
  have H' := Aside0.mk H
  clear H
  go_enter Try.func30, Try.ntmps30
  go_wp2
  go_loopg [5] k (fun kq v5 w' => ∃ (x5_1 : Int), v5 = .int .i64 x5_1 ∧ Aside0 (gantletref11_Wrong.l0 kq a0 a1 x5_1 = some r) ∧ Aside0 (kq ≤ k) ∧ Drawn0 w w')
  case atStart => exact ⟨(0), zz0, H', ⟨Nat.le_refl _⟩, zz1⟩
  case round =>
   clear H'
   try clear c3b0
   obtain ⟨x5_1, rfl, HA, HK1, ⟨m1, rfl⟩⟩ := hrel
   cases gk with
   | zero => exact absurd HA.out (by simp [gantletref11_Wrong.l0])
   | succ k1 =>
     have H := HA.out
     clear HA
     simp only [gantletref11_Wrong.l0] at H
     by_cases c4 : x5_1 < (a1.size : Int)
     ·
      rw [if_pos c4] at H
      have c4b0 := decide_eq_true c4
      clear c4
      have HC5 := Aside0.mk H
      clear H
      go_upto_region 6 with (fail)
      go_cut [28] (fun v28 wc => ∃ (kq : Nat) (x28_4 : Bool), v28 = .bool x28_4 ∧ Aside0 (gantletref11_Wrong.j1 kq a0 a1 x5_1 x28_4 = some r) ∧ Aside0 (kq ≤ k1) ∧ Drawn0 w wc)
      case first =>
       have H := HC5.out
       clear HC5
       by_cases c6 : 0 ≤ x5_1
       ·
        rw [if_pos c6] at H
        have c6b0 := decide_eq_true c6
        clear c6
        (first | rw [c6b0] | (simp only [i64_w, i32_w]; rw [c6b0]) | skip)
        by_cases c8 : (bt a1 x5_1) = 128
        ·
         rw [if_pos c8] at H
         have c8b0 := beq_iff_eq.mpr c8
         have c8b1 := bne_eq_false_iff_eq.mpr c8
         clear c8
         by_cases c9 : x5_1 = 0
         ·
          rw [if_pos c9] at H
          have c9b0 := beq_iff_eq.mpr c9
          have c9b1 := bne_eq_false_iff_eq.mpr c9
          clear c9
          have H' := Aside0.mk H
          clear H
          have p7 : 0 ≤ (x5_1 : Int) := of_decide_eq_true zz4
          have q7 : x5_1 < (a1.size : Int) := of_decide_eq_true zz4
          have hx7 := bt_at a1 x5_1
          replace p7 := eq_true p7
          replace q7 := eq_true q7
          go_wp2
          go_meet
          case rel => exact ⟨_, (true), zz0, H', ⟨zz51⟩, zz1⟩
         ·
          rw [if_neg c9] at H
          have c9b0 := beq_eq_false_iff_ne.mpr c9
          have c9b1 := bne_iff_ne.mpr c9
          obtain ⟨ji10, hji10⟩ : ∃ j_ : Int, (wrap64 (x5_1 - 1)) = j_ := ⟨_, rfl⟩
          replace H : (if 0 ≤ (ji10) then (if (ji10) < (a1.size : Int) then (gantletref11_Wrong.j1 k1 a0 a1 x5_1 (decide ((bt a1 (ji10)) < 128))) else (none)) else (none)) = some r := by first | (rw [hji10] at H; exact H) | (simp only [hji10] at H ⊢; exact H)
          have hji10w : (IntKind.i64.wrap (x5_1 - 1)) = ji10 := (i64_w _).trans hji10
          by_cases c11 : 0 ≤ (ji10)
          ·
           rw [if_pos c11] at H
           have c11b0 := decide_eq_true c11
           clear c11
           by_cases c12 : (ji10) < (a1.size : Int)
           ·
            rw [if_pos c12] at H
            have c12b0 := decide_eq_true c12
            clear c12
            have H' := Aside0.mk H
            clear H
            have p7 : 0 ≤ (x5_1 : Int) := of_decide_eq_true zz4
            have q7 : x5_1 < (a1.size : Int) := of_decide_eq_true zz4
            have hx7 := bt_at a1 x5_1
            replace p7 := eq_true p7
            replace q7 := eq_true q7
            have p13 : 0 ≤ ((ji10) : Int) := of_decide_eq_true zz4
            have q13 : (ji10) < (a1.size : Int) := of_decide_eq_true zz4
            have hx13 := bt_at a1 (ji10)
            replace p13 := eq_true p13
            replace q13 := eq_true q13
            go_wp2
            go_meet
            case rel => exact ⟨_, (decide ((bt a1 (ji10)) < 128)), (by first | rfl | (simp; done) | (simp only [← hji10] <;> (first | rfl | simp)) | (simp [*]; done)), H', ⟨zz51⟩, zz1⟩
           ·
            rw [if_neg c12] at H
            exact absurd H zz29
          ·
           rw [if_neg c11] at H
           exact absurd H zz29
        ·
         rw [if_neg c8] at H
         have c8b0 := beq_eq_false_iff_ne.mpr c8
         have c8b1 := bne_iff_ne.mpr c8
         have H' := Aside0.mk H
         clear H
         have p7 : 0 ≤ (x5_1 : Int) := of_decide_eq_true zz4
         have q7 : x5_1 < (a1.size : Int) := of_decide_eq_true zz4
         have hx7 := bt_at a1 x5_1
         replace p7 := eq_true p7
         replace q7 := eq_true q7
         go_wp2
         go_meet
         case rel => exact ⟨_, (false), zz0, H', ⟨zz51⟩, zz1⟩
       ·
        rw [if_neg c6] at H
        exact absurd H zz29
      case rest =>
       clear HC5
       try clear c4b0
       obtain ⟨kq, x28_4, rfl, HA, HJ4, ⟨mc4, rfl⟩⟩ := hcut
       cases kq with
       | zero => exact absurd HA.out (by simp [gantletref11_Wrong.j1])
       | succ kj4 =>
         have H := HA.out
         clear HA
         simp only [gantletref11_Wrong.j1] at H
         by_cases c14 : x28_4 = true
         ·
          subst c14
          rw [if_pos rfl] at H
          obtain rfl := Option.some.inj H
          go_wp2
          go_ret
          exact ⟨zz0, zz1⟩
         ·
          replace c14 := Bool.eq_false_iff.mpr c14
          subst c14
          rw [if_neg (show ¬ (false = true) by decide)] at H
          by_cases c15 : x5_1 = (wrap64 (a0 - 1))
          ·
           rw [if_pos c15] at H
           have c15b0 := beq_iff_eq.mpr c15
           have c15b1 := bne_eq_false_iff_eq.mpr c15
           clear c15
           by_cases c16 : 0 ≤ x5_1
           ·
            rw [if_pos c16] at H
            have c16b0 := decide_eq_true c16
            clear c16
            by_cases c17 : x5_1 < (a1.size : Int)
            ·
             rw [if_pos c17] at H
             have c17b0 := decide_eq_true c17
             clear c17
             by_cases c19 : (bt a1 x5_1) > 127
             ·
              rw [if_pos c19] at H
              have c19b0 : decide (127 < (bt a1 x5_1)) = true := decide_eq_true c19
              clear c19
              obtain rfl := Option.some.inj H
              have p18 : 0 ≤ (x5_1 : Int) := of_decide_eq_true zz4
              have q18 : x5_1 < (a1.size : Int) := of_decide_eq_true zz4
              have hx18 := bt_at a1 x5_1
              replace p18 := eq_true p18
              replace q18 := eq_true q18
              go_wp2
              go_ret
              exact ⟨zz0, zz1⟩
             ·
              rw [if_neg c19] at H
              have c19b0 : decide (127 < (bt a1 x5_1)) = false := decide_eq_false c19
              clear c19
              have H' := Aside0.mk H
              clear H
              have p18 : 0 ≤ (x5_1 : Int) := of_decide_eq_true zz4
              have q18 : x5_1 < (a1.size : Int) := of_decide_eq_true zz4
              have hx18 := bt_at a1 x5_1
              replace p18 := eq_true p18
              replace q18 := eq_true q18
              go_wp2
              go_roundg kj4
              case measure => have := HK1.out; have := HJ4.out; omega
              case rel => exact ⟨(wrap64 (x5_1 + 1)), zz0, H', ⟨by have := HK1.out; have := HJ4.out; omega⟩, zz1⟩
            ·
             rw [if_neg c17] at H
             exact absurd H zz29
           ·
            rw [if_neg c16] at H
            exact absurd H zz29
          ·
           rw [if_neg c15] at H
           have c15b0 := beq_eq_false_iff_ne.mpr c15
           have c15b1 := bne_iff_ne.mpr c15
           have H' := Aside0.mk H
           clear H
           go_wp2
           go_roundg kj4
           case measure => have := HK1.out; have := HJ4.out; omega
           case rel => exact ⟨(wrap64 (x5_1 + 1)), zz0, H', ⟨by have := HK1.out; have := HJ4.out; omega⟩, zz1⟩
     ·
      rw [if_neg c4] at H
      have c4b0 := decide_eq_false c4
      clear c4
      obtain rfl := Option.some.inj H
      go_wp2
      go_ret
      exact ⟨zz0, zz1⟩
def gantletref12_low.l0 : Nat → Int → Int → Int → Int → Option (Int)
 | 0, _, _, _, _ => none
 | k + 1, x0, x1, x5, x6 => if x6 < x1 then (gantletref12_low.l0 k x0 x1 (wrap64 (x5 * 2)) (wrap64 (x6 + 1))) else (if x5 = 0 then (none) else (some (Int.tmod (wrap64 (x0)) x5)))
def gantletref12_low.f (k : Nat) (a0 : Int) (a1 : Int) : Option (Int) := gantletref12_low.l0 k a0 a1 1 0
theorem gantletref12_low.mono_l : ∀ k, (∀ y0 y1 y2 y3, LeO (gantletref12_low.l0 k y0 y1 y2 y3) (gantletref12_low.l0 (k + 1) y0 y1 y2 y3))
 | 0 => fun _ _ _ _ r h => by simp [gantletref12_low.l0] at h
 | k + 1 => by
   have ih0 := gantletref12_low.mono_l k
   ·
    intro y0 y1 y2 y3
    unfold gantletref12_low.l0
    repeat' first
    | (with_reducible exact ih0 _ _ _ _)
    | (with_reducible exact LeO.refl _)
    | (with_reducible exact LeO.none _)
    | (with_reducible refine LeO.ite ?_ ?_)
    | (with_reducible refine LeO.bind ?_ (fun _ => ?_))
    | exact ih0 _ _ _ _
    | exact LeO.none _
    | refine LeO.ite ?_ ?_
    | refine LeO.bind ?_ (fun _ => ?_)
theorem gantletref12_low.mono : ∀ a0 a1 k, LeO (gantletref12_low.f k a0 a1) (gantletref12_low.f (k + 1) a0 a1) := by
 intro a0 a1 k
 have ih0 := gantletref12_low.mono_l k
 unfold gantletref12_low.f
 repeat' first
  | (with_reducible exact ih0 _ _ _ _)
  | (with_reducible exact LeO.refl _)
  | (with_reducible exact LeO.none _)
  | (with_reducible refine LeO.ite ?_ ?_)
  | (with_reducible refine LeO.bind ?_ (fun _ => ?_))
  | exact ih0 _ _ _ _
  | exact LeO.none _
  | refine LeO.ite ?_ ?_
  | refine LeO.bind ?_ (fun _ => ?_)
set_option maxHeartbeats 8000000 in
set_option maxRecDepth 100000 in
theorem gantletref12_low.calls (k : Nat) (a0 : Int) (a1 : Int) (r : Int) (w : World) (h : gantletref12_low.f k a0 a1 = some r) :
 Calls Try.prog 42 #[.int .u8 a0, .int .i64 a1] w fun e w' => e = .returned (.int .i64 r) ∧ Drawn0 w w' := by
 have H : (gantletref12_low.l0 k a0 a1 1 0) = some r := h
 clear h
 have H' := Aside0.mk H
 clear H
 go_enter Try.func42, Try.ntmps42
 go_wp2
 go_loopg [5, 6] k (fun kq v5 v6 w' => ∃ (x5_1 : Int) (x6_1 : Int), v5 = .int .i64 x5_1 ∧ v6 = .int .i64 x6_1 ∧ Aside0 (gantletref12_low.l0 kq a0 a1 x5_1 x6_1 = some r) ∧ Aside0 (kq ≤ k) ∧ Drawn0 w w')
 case atStart => exact ⟨(1), (0), zz0, zz0, H', ⟨Nat.le_refl _⟩, zz1⟩
 case round =>
  clear H'
  obtain ⟨x5_1, x6_1, rfl, rfl, HA, HK1, ⟨m1, rfl⟩⟩ := hrel
  cases gk with
  | zero => exact absurd HA.out (by simp [gantletref12_low.l0])
  | succ k1 =>
    have H := HA.out
    clear HA
    simp only [gantletref12_low.l0] at H
    by_cases c3 : x6_1 < a1
    ·
     rw [if_pos c3] at H
     have c3b0 := decide_eq_true c3
     clear c3
     have H' := Aside0.mk H
     clear H
     go_wp2
     go_roundg k1
     case measure => have := HK1.out; omega
     case rel => exact ⟨(wrap64 (x5_1 * 2)), (wrap64 (x6_1 + 1)), zz0, zz0, H', ⟨zz59⟩, zz1⟩
    ·
     rw [if_neg c3] at H
     have c3b0 := decide_eq_false c3
     clear c3
     by_cases c4 : x5_1 = 0
     ·
      rw [if_pos c4] at H
      exact absurd H zz29
     ·
      rw [if_neg c4] at H
      have c4b0 := beq_eq_false_iff_ne.mpr c4
      have c4b1 := bne_iff_ne.mpr c4
      obtain rfl := Option.some.inj H
      go_wp2
      go_ret
      exact ⟨zz0, zz1⟩
end Go.Proofs.Ytpfconocipmcjaa.PC
namespace Go.Proofs.Ytpfconocipmcjaa.PC
open RowKit YtpfconocipmcjaaW.PrintWords YtpfconocipmcjaaW.PrintLast YtpfconocipmcjaaW.PrintMore
attribute [local go_sem] max2_int min2_int max_two min_two max_three min_three max_four min_four
set_option linter.unusedVariables false
set_option linter.unusedSimpArgs false
def gantletref12_Wrong.j0 : Nat → Int → ByteArray → Bool → Option (Int)
 | 0, _, _, _ => none
 | k + 1, x0, x1, x23 => if x23 = true then (some 1) else (if x0 > 1 then (if (x1.size : Int) = x0 then (if 0 ≤ (wrap64 (x0 - 1)) then (if (wrap64 (x0 - 1)) < (x1.size : Int) then (if 0 < (x1.size : Int) then ((gantletref12_low.f k (bt x1 (wrap64 (x0 - 1))) (wrap64 (bt x1 0))).bind fun t219 => (if t219 = 0 then (some (-1)) else (some x0))) else (none)) else (none)) else (none)) else (some (-1))) else (some (-1)))
def gantletref12_Wrong.f (k : Nat) (a0 : Int) (a1 : ByteArray) : Option (Int) := if a0 < 1 then (some 0) else (if (a1.size : Int) > 0 then (if 0 < (a1.size : Int) then (if (bt a1 0) > 7 then (gantletref12_Wrong.j0 k a0 a1 true) else (if a0 = 1 then (gantletref12_Wrong.j0 k a0 a1 ((bt a1 0) != 0)) else (gantletref12_Wrong.j0 k a0 a1 false))) else (none)) else (gantletref12_Wrong.j0 k a0 a1 false))
set_option maxHeartbeats 8000000 in
set_option maxRecDepth 100000 in
theorem gantletref12_Wrong.calls (k : Nat) (a0 : Int) (a1 : ByteArray) (r : Int) (w : World) (h : gantletref12_Wrong.f k a0 a1 = some r) :
 Calls Try.prog 31 #[.int .i64 a0, .string a1] w fun e w' => e = .returned (.int .i64 r) ∧ Drawn0 w w' := by
 have H : (if a0 < 1 then (some 0) else (if (a1.size : Int) > 0 then (if 0 < (a1.size : Int) then (if (bt a1 0) > 7 then (gantletref12_Wrong.j0 k a0 a1 true) else (if a0 = 1 then (gantletref12_Wrong.j0 k a0 a1 ((bt a1 0) != 0)) else (gantletref12_Wrong.j0 k a0 a1 false))) else (none)) else (gantletref12_Wrong.j0 k a0 a1 false))) = some r := h
 clear h
 by_cases c3 : a0 < 1
 ·
  rw [if_pos c3] at H
  have c3b0 := decide_eq_true c3
  clear c3
  obtain rfl := Option.some.inj H
  go_enter Try.func31, Try.ntmps31
  go_wp2
  repeat (go_quiet (fail); try go_wp2)
  go_ret
  exact ⟨zz0, zz1⟩
 ·
  rw [if_neg c3] at H
  have c3b0 := decide_eq_false c3
  clear c3
  have HC4 := Aside0.mk H
  clear H
  go_enter Try.func31, Try.ntmps31
  go_upto_region 3 with (fail)
  repeat (go_quiet (fail); go_upto_region 3 with (fail))
  go_cut [23] (fun v23 wc => ∃ (kq : Nat) (x23_3 : Bool), v23 = .bool x23_3 ∧ Aside0 (gantletref12_Wrong.j0 kq a0 a1 x23_3 = some r) ∧ Aside0 (kq ≤ k) ∧ Drawn0 w wc)
  case first =>
   have H := HC4.out
   clear HC4
   by_cases c5 : (a1.size : Int) > 0
   ·
    rw [if_pos c5] at H
    have c5b0 : decide (0 < (a1.size : Int)) = true := decide_eq_true c5
    have c5b1 : decide (0 < a1.size) = true := decide_eq_true zz3
    clear c5
    (first | rw [c5b0] | (simp only [i64_w, i32_w]; rw [c5b0]) | skip)
    by_cases c6 : 0 < (a1.size : Int)
    ·
     rw [if_pos c6] at H
     have c6b0 := decide_eq_true c6
     have c6b1 : decide (0 < a1.size) = true := decide_eq_true zz3
     clear c6
     by_cases c8 : (bt a1 0) > 7
     ·
      rw [if_pos c8] at H
      have c8b0 : decide (7 < (bt a1 0)) = true := decide_eq_true c8
      clear c8
      have H' := Aside0.mk H
      clear H
      have p7 : 0 ≤ (0 : Int) := zz3
      have q7 : 0 < a1.size := (by have : (0 : Int) < (a1.size : Int) := of_decide_eq_true zz4; omega)
      have hx7 : ∀ h : 0 < a1.size, ((a1[0]'h).toNat : Int) = bt a1 0 := bt_at a1 0
      clear p7
      have qi7 : (0 < (a1.size : Int)) = True := eq_true (of_decide_eq_true zz4)
      replace q7 := eq_true q7
      go_wp2
      repeat (go_quiet (fail); try go_wp2)
      go_meet
      case rel => exact ⟨_, (true), zz0, H', ⟨zz30⟩, zz1⟩
     ·
      rw [if_neg c8] at H
      have c8b0 : decide (7 < (bt a1 0)) = false := decide_eq_false c8
      clear c8
      by_cases c9 : a0 = 1
      ·
       rw [if_pos c9] at H
       have c9b0 := beq_iff_eq.mpr c9
       have c9b1 := bne_eq_false_iff_eq.mpr c9
       clear c9
       have H' := Aside0.mk H
       clear H
       have p7 : 0 ≤ (0 : Int) := zz3
       have q7 : 0 < a1.size := (by have : (0 : Int) < (a1.size : Int) := of_decide_eq_true zz4; omega)
       have hx7 : ∀ h : 0 < a1.size, ((a1[0]'h).toNat : Int) = bt a1 0 := bt_at a1 0
       clear p7
       have qi7 : (0 < (a1.size : Int)) = True := eq_true (of_decide_eq_true zz4)
       replace q7 := eq_true q7
       have p10 : 0 ≤ (0 : Int) := zz3
       have q10 : 0 < a1.size := (by have : (0 : Int) < (a1.size : Int) := of_decide_eq_true zz4; omega)
       have hx10 : ∀ h : 0 < a1.size, ((a1[0]'h).toNat : Int) = bt a1 0 := bt_at a1 0
       clear p10
       have qi10 : (0 < (a1.size : Int)) = True := eq_true (of_decide_eq_true zz4)
       replace q10 := eq_true q10
       go_wp2
       repeat (go_quiet (fail); try go_wp2)
       go_meet
       case rel => exact ⟨_, (((bt a1 0) != 0)), zz0, H', ⟨zz30⟩, zz1⟩
      ·
       rw [if_neg c9] at H
       have c9b0 := beq_eq_false_iff_ne.mpr c9
       have c9b1 := bne_iff_ne.mpr c9
       have H' := Aside0.mk H
       clear H
       have p7 : 0 ≤ (0 : Int) := zz3
       have q7 : 0 < a1.size := (by have : (0 : Int) < (a1.size : Int) := of_decide_eq_true zz4; omega)
       have hx7 : ∀ h : 0 < a1.size, ((a1[0]'h).toNat : Int) = bt a1 0 := bt_at a1 0
       clear p7
       have qi7 : (0 < (a1.size : Int)) = True := eq_true (of_decide_eq_true zz4)
       replace q7 := eq_true q7
       go_wp2
       repeat (go_quiet (fail); try go_wp2)
       go_meet
       case rel => exact ⟨_, (false), zz0, H', ⟨zz30⟩, zz1⟩
    ·
     rw [if_neg c6] at H
     exact absurd H zz29
   ·
    rw [if_neg c5] at H
    have c5b0 : decide (0 < (a1.size : Int)) = false := decide_eq_false c5
    have c5b1 : decide (0 < a1.size) = false := decide_eq_false zz3
    clear c5
    (first | rw [c5b0] | (simp only [i64_w, i32_w]; rw [c5b0]) | skip)
    have H' := Aside0.mk H
    clear H
    go_wp2
    repeat (go_quiet (fail); try go_wp2)
    go_meet
    case rel => exact ⟨_, (false), zz0, H', ⟨zz30⟩, zz1⟩
  case rest =>
   clear HC4
   try clear c3b0
   obtain ⟨kq, x23_3, rfl, HA, HJ3, ⟨mc3, rfl⟩⟩ := hcut
   cases kq with
   | zero => exact absurd HA.out (by simp [gantletref12_Wrong.j0])
   | succ kj3 =>
     have H := HA.out
     clear HA
     simp only [gantletref12_Wrong.j0] at H
     by_cases c11 : x23_3 = true
     ·
      subst c11
      rw [if_pos rfl] at H
      obtain rfl := Option.some.inj H
      go_wp2
      repeat (go_quiet (fail); try go_wp2)
      go_ret
      exact ⟨zz0, zz1⟩
     ·
      replace c11 := Bool.eq_false_iff.mpr c11
      subst c11
      rw [if_neg (show ¬ (false = true) by decide)] at H
      by_cases c12 : a0 > 1
      ·
       rw [if_pos c12] at H
       have c12b0 : decide (1 < a0) = true := decide_eq_true c12
       clear c12
       by_cases c13 : (a1.size : Int) = a0
       ·
        rw [if_pos c13] at H
        have c13b0 := beq_iff_eq.mpr c13
        have c13b1 := bne_eq_false_iff_eq.mpr c13
        clear c13
        obtain ⟨ji14, hji14⟩ : ∃ j_ : Int, (wrap64 (a0 - 1)) = j_ := ⟨_, rfl⟩
        replace H : (if 0 ≤ (ji14) then (if (ji14) < (a1.size : Int) then (if 0 < (a1.size : Int) then ((gantletref12_low.f kj3 (bt a1 (ji14)) (wrap64 (bt a1 0))).bind fun t219 => (if t219 = 0 then (some (-1)) else (some a0))) else (none)) else (none)) else (none)) = some r := by first | (rw [hji14] at H; exact H) | (simp only [hji14] at H ⊢; exact H)
        have hji14w : (IntKind.i64.wrap (a0 - 1)) = ji14 := (i64_w _).trans hji14
        by_cases c15 : 0 ≤ (ji14)
        ·
         rw [if_pos c15] at H
         have c15b0 := decide_eq_true c15
         clear c15
         by_cases c16 : (ji14) < (a1.size : Int)
         ·
          rw [if_pos c16] at H
          have c16b0 := decide_eq_true c16
          clear c16
          by_cases c18 : 0 < (a1.size : Int)
          ·
           rw [if_pos c18] at H
           have c18b0 := decide_eq_true c18
           have c18b1 : decide (0 < a1.size) = true := decide_eq_true zz3
           clear c18
           replace H := Option.bind_eq_some_iff.mp H
           obtain ⟨t219, A200, H⟩ := H
           replace H : (if t219 = 0 then (some (-1)) else (some a0)) = some r := H
           have A20 := Aside0.mk A200
           clear A200
           by_cases c21 : t219 = 0
           ·
            rw [if_pos c21] at H
            have c21b0 := beq_iff_eq.mpr c21
            have c21b1 := bne_eq_false_iff_eq.mpr c21
            clear c21
            obtain rfl := Option.some.inj H
            have p17 : 0 ≤ ((ji14) : Int) := of_decide_eq_true zz4
            have q17 : (ji14) < (a1.size : Int) := of_decide_eq_true zz4
            have hx17 := bt_at a1 (ji14)
            replace p17 := eq_true p17
            replace q17 := eq_true q17
            have p19 : 0 ≤ (0 : Int) := zz3
            have q19 : 0 < a1.size := (by have : (0 : Int) < (a1.size : Int) := of_decide_eq_true zz4; omega)
            have hx19 : ∀ h : 0 < a1.size, ((a1[0]'h).toNat : Int) = bt a1 0 := bt_at a1 0
            clear p19
            have qi19 : (0 < (a1.size : Int)) = True := eq_true (of_decide_eq_true zz4)
            replace q19 := eq_true q19
            go_wp2_with (first | (go_at_call 42; (with_reducible refine (gantletref12_low.calls kj3 (bt a1 (ji14)) (wrap64 (bt a1 0)) t219 _ A20.out).mono ?_); rintro e w' ⟨rfl, ⟨nd, rfl⟩⟩; (try first | exact ⟨rfl, _, World.drewN_drewN _ _ _⟩ | exact ⟨rfl, _, Eq.trans (World.drewN_drewN _ _ _) (congrArg (World.drewN _) (Nat.add_assoc _ _ _))⟩)))
            repeat (go_quiet (first | (go_at_call 42; (with_reducible refine (gantletref12_low.calls kj3 (bt a1 (ji14)) (wrap64 (bt a1 0)) t219 _ A20.out).mono ?_); rintro e w' ⟨rfl, ⟨nd, rfl⟩⟩; (try first | exact ⟨rfl, _, World.drewN_drewN _ _ _⟩ | exact ⟨rfl, _, Eq.trans (World.drewN_drewN _ _ _) (congrArg (World.drewN _) (Nat.add_assoc _ _ _))⟩))); try go_wp2_with (first | (go_at_call 42; (with_reducible refine (gantletref12_low.calls kj3 (bt a1 (ji14)) (wrap64 (bt a1 0)) t219 _ A20.out).mono ?_); rintro e w' ⟨rfl, ⟨nd, rfl⟩⟩; (try first | exact ⟨rfl, _, World.drewN_drewN _ _ _⟩ | exact ⟨rfl, _, Eq.trans (World.drewN_drewN _ _ _) (congrArg (World.drewN _) (Nat.add_assoc _ _ _))⟩))))
            go_ret
            exact ⟨by first | rfl | (simp; done) | (simp only [← hji14] <;> (first | rfl | simp)) | (simp [*]; done), zz1⟩
           ·
            rw [if_neg c21] at H
            have c21b0 := beq_eq_false_iff_ne.mpr c21
            have c21b1 := bne_iff_ne.mpr c21
            obtain rfl := Option.some.inj H
            have p17 : 0 ≤ ((ji14) : Int) := of_decide_eq_true zz4
            have q17 : (ji14) < (a1.size : Int) := of_decide_eq_true zz4
            have hx17 := bt_at a1 (ji14)
            replace p17 := eq_true p17
            replace q17 := eq_true q17
            have p19 : 0 ≤ (0 : Int) := zz3
            have q19 : 0 < a1.size := (by have : (0 : Int) < (a1.size : Int) := of_decide_eq_true zz4; omega)
            have hx19 : ∀ h : 0 < a1.size, ((a1[0]'h).toNat : Int) = bt a1 0 := bt_at a1 0
            clear p19
            have qi19 : (0 < (a1.size : Int)) = True := eq_true (of_decide_eq_true zz4)
            replace q19 := eq_true q19
            go_wp2_with (first | (go_at_call 42; (with_reducible refine (gantletref12_low.calls kj3 (bt a1 (ji14)) (wrap64 (bt a1 0)) t219 _ A20.out).mono ?_); rintro e w' ⟨rfl, ⟨nd, rfl⟩⟩; (try first | exact ⟨rfl, _, World.drewN_drewN _ _ _⟩ | exact ⟨rfl, _, Eq.trans (World.drewN_drewN _ _ _) (congrArg (World.drewN _) (Nat.add_assoc _ _ _))⟩)))
            repeat (go_quiet (first | (go_at_call 42; (with_reducible refine (gantletref12_low.calls kj3 (bt a1 (ji14)) (wrap64 (bt a1 0)) t219 _ A20.out).mono ?_); rintro e w' ⟨rfl, ⟨nd, rfl⟩⟩; (try first | exact ⟨rfl, _, World.drewN_drewN _ _ _⟩ | exact ⟨rfl, _, Eq.trans (World.drewN_drewN _ _ _) (congrArg (World.drewN _) (Nat.add_assoc _ _ _))⟩))); try go_wp2_with (first | (go_at_call 42; (with_reducible refine (gantletref12_low.calls kj3 (bt a1 (ji14)) (wrap64 (bt a1 0)) t219 _ A20.out).mono ?_); rintro e w' ⟨rfl, ⟨nd, rfl⟩⟩; (try first | exact ⟨rfl, _, World.drewN_drewN _ _ _⟩ | exact ⟨rfl, _, Eq.trans (World.drewN_drewN _ _ _) (congrArg (World.drewN _) (Nat.add_assoc _ _ _))⟩))))
            go_ret
            exact ⟨by first | rfl | (simp; done) | (simp only [← hji14] <;> (first | rfl | simp)) | (simp [*]; done), zz1⟩
          ·
           rw [if_neg c18] at H
           exact absurd H zz29
         ·
          rw [if_neg c16] at H
          exact absurd H zz29
        ·
         rw [if_neg c15] at H
         exact absurd H zz29
       ·
        rw [if_neg c13] at H
        have c13b0 := beq_eq_false_iff_ne.mpr c13
        have c13b1 := bne_iff_ne.mpr c13
        obtain rfl := Option.some.inj H
        go_wp2
        repeat (go_quiet (fail); try go_wp2)
        go_ret
        exact ⟨zz0, zz1⟩
      ·
       rw [if_neg c12] at H
       have c12b0 : decide (1 < a0) = false := decide_eq_false c12
       clear c12
       obtain rfl := Option.some.inj H
       go_wp2
       repeat (go_quiet (fail); try go_wp2)
       go_ret
       exact ⟨zz0, zz1⟩
end Go.Proofs.Ytpfconocipmcjaa.PC
