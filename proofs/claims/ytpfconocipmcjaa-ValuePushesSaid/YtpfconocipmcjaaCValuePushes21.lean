/- What the row of ValuePushes stands on, made small by a program of this session (pack.py). -/
import Derived.Test.YtpfconocipmcjaaCValuePushes2
import Derived.Test.YtpfconocipmcjaaCValuePushes4
namespace Go.Proofs.Ytpfconocipmcjaa.PC
open RowKit YtpfconocipmcjaaW.PrintWords YtpfconocipmcjaaW.PrintLast YtpfconocipmcjaaW.PrintMore
attribute [local go_sem] max2_int min2_int max_two min_two max_three min_three max_four min_four
set_option linter.unusedVariables false
set_option linter.unusedSimpArgs false
def gantletref13_plain.l0 : Nat → ByteArray → Int → Option (Bool)
 | 0, _, _ => none
 | k + 1, x0, x3 => if x3 < (x0.size : Int) then (if 0 ≤ x3 then (if (bt x0 x3) < 48 then (some false) else (if (bt x0 x3) > 57 then (some false) else (gantletref13_plain.l0 k x0 (wrap64 (x3 + 1))))) else (none)) else (some true)
def gantletref13_plain.f (k : Nat) (a0 : ByteArray) : Option (Bool) := gantletref13_plain.l0 k a0 0
set_option maxHeartbeats 8000000 in
set_option maxRecDepth 100000 in
theorem gantletref13_plain.calls (k : Nat) (a0 : ByteArray) (r : Bool) (w : World) (h : gantletref13_plain.f k a0 = some r) :
 Calls Try.prog 61 #[.string a0] w fun e w' => e = .returned (.bool r) ∧ Drawn0 w w' := by
 have H : (gantletref13_plain.l0 k a0 0) = some r := h
 clear h
 have H' := Aside0.mk H
 clear H
 go_enter Try.func61, Try.ntmps61
 go_wp2
 go_loopg [3] k (fun kq v3 w' => ∃ (x3_1 : Int), v3 = .int .i64 x3_1 ∧ Aside0 (gantletref13_plain.l0 kq a0 x3_1 = some r) ∧ Aside0 (kq ≤ k) ∧ Drawn0 w w')
 case atStart => exact ⟨(0), zz0, H', ⟨Nat.le_refl _⟩, zz1⟩
 case round =>
  clear H'
  obtain ⟨x3_1, rfl, HA, HK1, ⟨m1, rfl⟩⟩ := hrel
  cases gk with
  | zero => exact absurd HA.out (by simp [gantletref13_plain.l0])
  | succ k1 =>
    have H := HA.out
    clear HA
    simp only [gantletref13_plain.l0] at H
    by_cases c2 : x3_1 < (a0.size : Int)
    ·
     rw [if_pos c2] at H
     have c2b0 := decide_eq_true c2
     clear c2
     by_cases c3 : 0 ≤ x3_1
     ·
      rw [if_pos c3] at H
      have c3b0 := decide_eq_true c3
      clear c3
      by_cases c5 : (bt a0 x3_1) < 48
      ·
       rw [if_pos c5] at H
       have c5b0 := decide_eq_true c5
       clear c5
       obtain rfl := Option.some.inj H
       have p4 : 0 ≤ (x3_1 : Int) := of_decide_eq_true zz4
       have q4 : x3_1 < (a0.size : Int) := of_decide_eq_true zz4
       have hx4 := bt_at a0 x3_1
       replace p4 := eq_true p4
       replace q4 := eq_true q4
       go_wp2
       go_ret
       exact ⟨zz0, zz1⟩
      ·
       rw [if_neg c5] at H
       have c5b0 := decide_eq_false c5
       clear c5
       by_cases c7 : (bt a0 x3_1) > 57
       ·
        rw [if_pos c7] at H
        have c7b0 : decide (57 < (bt a0 x3_1)) = true := decide_eq_true c7
        clear c7
        obtain rfl := Option.some.inj H
        have p4 : 0 ≤ (x3_1 : Int) := of_decide_eq_true zz4
        have q4 : x3_1 < (a0.size : Int) := of_decide_eq_true zz4
        have hx4 := bt_at a0 x3_1
        replace p4 := eq_true p4
        replace q4 := eq_true q4
        have p6 : 0 ≤ (x3_1 : Int) := of_decide_eq_true zz4
        have q6 : x3_1 < (a0.size : Int) := of_decide_eq_true zz4
        have hx6 := bt_at a0 x3_1
        replace p6 := eq_true p6
        replace q6 := eq_true q6
        go_wp2
        go_ret
        exact ⟨zz0, zz1⟩
       ·
        rw [if_neg c7] at H
        have c7b0 : decide (57 < (bt a0 x3_1)) = false := decide_eq_false c7
        clear c7
        have H' := Aside0.mk H
        clear H
        have p4 : 0 ≤ (x3_1 : Int) := of_decide_eq_true zz4
        have q4 : x3_1 < (a0.size : Int) := of_decide_eq_true zz4
        have hx4 := bt_at a0 x3_1
        replace p4 := eq_true p4
        replace q4 := eq_true q4
        have p6 : 0 ≤ (x3_1 : Int) := of_decide_eq_true zz4
        have q6 : x3_1 < (a0.size : Int) := of_decide_eq_true zz4
        have hx6 := bt_at a0 x3_1
        replace p6 := eq_true p6
        replace q6 := eq_true q6
        go_wp2
        go_roundg k1
        case measure => have := HK1.out; omega
        case rel => exact ⟨(wrap64 (x3_1 + 1)), zz0, H', ⟨zz59⟩, zz1⟩
     ·
      rw [if_neg c3] at H
      exact absurd H zz29
    ·
     rw [if_neg c2] at H
     have c2b0 := decide_eq_false c2
     clear c2
     obtain rfl := Option.some.inj H
     go_wp2
     go_ret
     exact ⟨zz0, zz1⟩
def gantletref13_year.l0 : Nat → ByteArray → Option (Bool)
 | 0, _ => none
 | k + 1, x0 => if (x0.size : Int) < 4 then (if x0.size + 1 ≤ 9223372036854775807 then (gantletref13_year.l0 k (x0 ++ (⟨#[57]⟩ : ByteArray))) else (none)) else (some (!(Op.bytesLess x0.toList ([50, 48, 53, 48] : List UInt8))))
def gantletref13_year.f (k : Nat) (a0 : ByteArray) : Option (Bool) := gantletref13_year.l0 k a0
set_option maxHeartbeats 8000000 in
set_option maxRecDepth 100000 in
theorem gantletref13_year.calls (k : Nat) (a0 : ByteArray) (r : Bool) (w : World) (h : gantletref13_year.f k a0 = some r) :
 Calls Try.prog 62 #[.string a0] w fun e w' => e = .returned (.bool r) ∧ Drawn0 w w' := by
 have H : (gantletref13_year.l0 k a0) = some r := h
 clear h
 have H' := Aside0.mk H
 clear H
 go_enter Try.func62, Try.ntmps62
 go_wp2
 go_loopg [0] k (fun kq v0 w' => ∃ (x0_1 : ByteArray), v0 = .string x0_1 ∧ Aside0 (gantletref13_year.l0 kq x0_1 = some r) ∧ Aside0 (kq ≤ k) ∧ Drawn0 w w')
 case atStart => exact ⟨(a0), zz0, H', ⟨Nat.le_refl _⟩, zz1⟩
 case round =>
  clear H'
  obtain ⟨x0_1, rfl, HA, HK1, ⟨m1, rfl⟩⟩ := hrel
  cases gk with
  | zero => exact absurd HA.out (by simp [gantletref13_year.l0])
  | succ k1 =>
    have H := HA.out
    clear HA
    simp only [gantletref13_year.l0] at H
    by_cases c2 : (x0_1.size : Int) < 4
    ·
     rw [if_pos c2] at H
     have c2b0 := decide_eq_true c2
     have c2b1 : decide (x0_1.size < 4) = true := decide_eq_true zz3
     clear c2
     by_cases c3 : x0_1.size + 1 ≤ 9223372036854775807
     ·
      rw [if_pos c3] at H
      have c3b0 := eq_true c3
      have c3b1 := decide_eq_true c3
      try have c3b2 : (9223372036854775807 < x0_1.size + 1) = False := eq_false (Nat.not_lt.2 c3)
      have H' := Aside0.mk H
      clear H
      go_wp2
      go_roundg k1
      case measure => have := HK1.out; omega
      case rel => exact ⟨(x0_1 ++ (⟨#[57]⟩ : ByteArray)), zz0, H', ⟨zz59⟩, zz1⟩
     ·
      rw [if_neg c3] at H
      exact absurd H zz29
    ·
     rw [if_neg c2] at H
     have c2b0 := decide_eq_false c2
     have c2b1 : decide (x0_1.size < 4) = false := decide_eq_false zz3
     clear c2
     obtain rfl := Option.some.inj H
     go_wp2
     go_ret
     exact ⟨zz0, zz1⟩
def gantletref13_two.f (a0 : ByteArray) (a1 : Int) : Option (Int) := if 0 ≤ a1 then (if a1 < (a0.size : Int) then (if 0 ≤ (wrap64 (a1 + 1)) then (if (wrap64 (a1 + 1)) < (a0.size : Int) then (if (wrap64 ((wrap64 (bt a0 a1)) - 48)) < 0 then (some (-1)) else (if (wrap64 ((wrap64 (bt a0 a1)) - 48)) > 9 then (some (-1)) else (if (wrap64 ((wrap64 (bt a0 (wrap64 (a1 + 1)))) - 48)) < 0 then (some (-1)) else (if (wrap64 ((wrap64 (bt a0 (wrap64 (a1 + 1)))) - 48)) > 9 then (some (-1)) else (some (wrap64 ((wrap64 (10 * (wrap64 ((wrap64 (bt a0 a1)) - 48)))) + (wrap64 ((wrap64 (bt a0 (wrap64 (a1 + 1)))) - 48))))))))) else (none)) else (none)) else (none)) else (none)
set_option maxHeartbeats 8000000 in
set_option maxRecDepth 100000 in
theorem gantletref13_two.calls (a0 : ByteArray) (a1 : Int) (r : Int) (w : World) (h : gantletref13_two.f a0 a1 = some r) :
 Calls Try.prog 82 #[.string a0, .int .i64 a1] w fun e w' => e = .returned (.int .i64 r) ∧ Drawn0 w w' := by
 have H : (if 0 ≤ a1 then (if a1 < (a0.size : Int) then (if 0 ≤ (wrap64 (a1 + 1)) then (if (wrap64 (a1 + 1)) < (a0.size : Int) then (if (wrap64 ((wrap64 (bt a0 a1)) - 48)) < 0 then (some (-1)) else (if (wrap64 ((wrap64 (bt a0 a1)) - 48)) > 9 then (some (-1)) else (if (wrap64 ((wrap64 (bt a0 (wrap64 (a1 + 1)))) - 48)) < 0 then (some (-1)) else (if (wrap64 ((wrap64 (bt a0 (wrap64 (a1 + 1)))) - 48)) > 9 then (some (-1)) else (some (wrap64 ((wrap64 (10 * (wrap64 ((wrap64 (bt a0 a1)) - 48)))) + (wrap64 ((wrap64 (bt a0 (wrap64 (a1 + 1)))) - 48))))))))) else (none)) else (none)) else (none)) else (none)) = some r := h
 clear h
 by_cases c3 : 0 ≤ a1
 ·
  rw [if_pos c3] at H
  have c3b0 := decide_eq_true c3
  clear c3
  by_cases c4 : a1 < (a0.size : Int)
  ·
   rw [if_pos c4] at H
   have c4b0 := decide_eq_true c4
   clear c4
   obtain ⟨ji6, hji6⟩ : ∃ j_ : Int, (wrap64 (a1 + 1)) = j_ := ⟨_, rfl⟩
   replace H : (if 0 ≤ (ji6) then (if (ji6) < (a0.size : Int) then (if (wrap64 ((wrap64 (bt a0 a1)) - 48)) < 0 then (some (-1)) else (if (wrap64 ((wrap64 (bt a0 a1)) - 48)) > 9 then (some (-1)) else (if (wrap64 ((wrap64 (bt a0 (ji6))) - 48)) < 0 then (some (-1)) else (if (wrap64 ((wrap64 (bt a0 (ji6))) - 48)) > 9 then (some (-1)) else (some (wrap64 ((wrap64 (10 * (wrap64 ((wrap64 (bt a0 a1)) - 48)))) + (wrap64 ((wrap64 (bt a0 (ji6))) - 48))))))))) else (none)) else (none)) = some r := by first | (rw [hji6] at H; exact H) | (simp only [hji6] at H ⊢; exact H)
   have hji6w : (IntKind.i64.wrap (a1 + 1)) = ji6 := (i64_w _).trans hji6
   by_cases c7 : 0 ≤ (ji6)
   ·
    rw [if_pos c7] at H
    have c7b0 := decide_eq_true c7
    clear c7
    by_cases c8 : (ji6) < (a0.size : Int)
    ·
     rw [if_pos c8] at H
     have c8b0 := decide_eq_true c8
     clear c8
     by_cases c10 : (wrap64 ((wrap64 (bt a0 a1)) - 48)) < 0
     ·
      rw [if_pos c10] at H
      have c10b0 := decide_eq_true c10
      clear c10
      obtain rfl := Option.some.inj H
      have p5 : 0 ≤ (a1 : Int) := of_decide_eq_true zz4
      have q5 : a1 < (a0.size : Int) := of_decide_eq_true zz4
      have hx5 := bt_at a0 a1
      replace p5 := eq_true p5
      replace q5 := eq_true q5
      have p9 : 0 ≤ ((ji6) : Int) := of_decide_eq_true zz4
      have q9 : (ji6) < (a0.size : Int) := of_decide_eq_true zz4
      have hx9 := bt_at a0 (ji6)
      replace p9 := eq_true p9
      replace q9 := eq_true q9
      go_enter Try.func82, Try.ntmps82
      go_wp2
      go_ret
      exact ⟨zz43, zz1⟩
     ·
      rw [if_neg c10] at H
      have c10b0 := decide_eq_false c10
      clear c10
      by_cases c11 : (wrap64 ((wrap64 (bt a0 a1)) - 48)) > 9
      ·
       rw [if_pos c11] at H
       have c11b0 : decide (9 < (wrap64 ((wrap64 (bt a0 a1)) - 48))) = true := decide_eq_true c11
       clear c11
       obtain rfl := Option.some.inj H
       have p5 : 0 ≤ (a1 : Int) := of_decide_eq_true zz4
       have q5 : a1 < (a0.size : Int) := of_decide_eq_true zz4
       have hx5 := bt_at a0 a1
       replace p5 := eq_true p5
       replace q5 := eq_true q5
       have p9 : 0 ≤ ((ji6) : Int) := of_decide_eq_true zz4
       have q9 : (ji6) < (a0.size : Int) := of_decide_eq_true zz4
       have hx9 := bt_at a0 (ji6)
       replace p9 := eq_true p9
       replace q9 := eq_true q9
       go_enter Try.func82, Try.ntmps82
       go_wp2
       go_ret
       exact ⟨zz43, zz1⟩
      ·
       rw [if_neg c11] at H
       have c11b0 : decide (9 < (wrap64 ((wrap64 (bt a0 a1)) - 48))) = false := decide_eq_false c11
       clear c11
       by_cases c12 : (wrap64 ((wrap64 (bt a0 (ji6))) - 48)) < 0
       ·
        rw [if_pos c12] at H
        have c12b0 := decide_eq_true c12
        clear c12
        obtain rfl := Option.some.inj H
        have p5 : 0 ≤ (a1 : Int) := of_decide_eq_true zz4
        have q5 : a1 < (a0.size : Int) := of_decide_eq_true zz4
        have hx5 := bt_at a0 a1
        replace p5 := eq_true p5
        replace q5 := eq_true q5
        have p9 : 0 ≤ ((ji6) : Int) := of_decide_eq_true zz4
        have q9 : (ji6) < (a0.size : Int) := of_decide_eq_true zz4
        have hx9 := bt_at a0 (ji6)
        replace p9 := eq_true p9
        replace q9 := eq_true q9
        go_enter Try.func82, Try.ntmps82
        go_wp2
        go_ret
        exact ⟨zz43, zz1⟩
       ·
        rw [if_neg c12] at H
        have c12b0 := decide_eq_false c12
        clear c12
        by_cases c13 : (wrap64 ((wrap64 (bt a0 (ji6))) - 48)) > 9
        ·
         rw [if_pos c13] at H
         have c13b0 : decide (9 < (wrap64 ((wrap64 (bt a0 (ji6))) - 48))) = true := decide_eq_true c13
         clear c13
         obtain rfl := Option.some.inj H
         have p5 : 0 ≤ (a1 : Int) := of_decide_eq_true zz4
         have q5 : a1 < (a0.size : Int) := of_decide_eq_true zz4
         have hx5 := bt_at a0 a1
         replace p5 := eq_true p5
         replace q5 := eq_true q5
         have p9 : 0 ≤ ((ji6) : Int) := of_decide_eq_true zz4
         have q9 : (ji6) < (a0.size : Int) := of_decide_eq_true zz4
         have hx9 := bt_at a0 (ji6)
         replace p9 := eq_true p9
         replace q9 := eq_true q9
         go_enter Try.func82, Try.ntmps82
         go_wp2
         go_ret
         exact ⟨zz43, zz1⟩
        ·
         rw [if_neg c13] at H
         have c13b0 : decide (9 < (wrap64 ((wrap64 (bt a0 (ji6))) - 48))) = false := decide_eq_false c13
         clear c13
         obtain rfl := Option.some.inj H
         have p5 : 0 ≤ (a1 : Int) := of_decide_eq_true zz4
         have q5 : a1 < (a0.size : Int) := of_decide_eq_true zz4
         have hx5 := bt_at a0 a1
         replace p5 := eq_true p5
         replace q5 := eq_true q5
         have p9 : 0 ≤ ((ji6) : Int) := of_decide_eq_true zz4
         have q9 : (ji6) < (a0.size : Int) := of_decide_eq_true zz4
         have hx9 := bt_at a0 (ji6)
         replace p9 := eq_true p9
         replace q9 := eq_true q9
         go_enter Try.func82, Try.ntmps82
         go_wp2
         go_ret
         exact ⟨zz43, zz1⟩
    ·
     rw [if_neg c8] at H
     exact absurd H zz29
   ·
    rw [if_neg c7] at H
    exact absurd H zz29
  ·
   rw [if_neg c4] at H
   exact absurd H zz29
 ·
  rw [if_neg c3] at H
  exact absurd H zz29
end Go.Proofs.Ytpfconocipmcjaa.PC
namespace Go.Proofs.Ytpfconocipmcjaa.PC
open RowKit YtpfconocipmcjaaW.PrintWords YtpfconocipmcjaaW.PrintLast YtpfconocipmcjaaW.PrintMore
attribute [local go_sem] max2_int min2_int max_two min_two max_three min_three max_four min_four
set_option linter.unusedVariables false
set_option linter.unusedSimpArgs false
mutual
def gantletref13_Days.j0 : Nat → Int → Int → Bool → Option (Int)
 | 0, _, _, _ => none
 | k + 1, x0, x1, x10 => if x10 = true then (some 0) else (if x1 = 1 then (gantletref13_Days.j1 k x0 x1 (x1 == 1)) else (if x1 = 3 then (gantletref13_Days.j1 k x0 x1 (x1 == 3)) else (if x1 = 5 then (gantletref13_Days.j1 k x0 x1 (x1 == 5)) else (if x1 = 7 then (gantletref13_Days.j1 k x0 x1 (x1 == 7)) else (if x1 = 8 then (gantletref13_Days.j1 k x0 x1 (x1 == 8)) else (if x1 = 10 then (gantletref13_Days.j1 k x0 x1 (x1 == 10)) else (gantletref13_Days.j1 k x0 x1 (x1 == 12))))))))
def gantletref13_Days.j1 : Nat → Int → Int → Bool → Option (Int)
 | 0, _, _, _ => none
 | k + 1, x0, x11, x12 => if x12 = true then (some 31) else (if x11 = 4 then (gantletref13_Days.j2 k x0 x11 (x11 == 4)) else (if x11 = 6 then (gantletref13_Days.j2 k x0 x11 (x11 == 6)) else (if x11 = 9 then (gantletref13_Days.j2 k x0 x11 (x11 == 9)) else (gantletref13_Days.j2 k x0 x11 (x11 == 11)))))
def gantletref13_Days.j2 : Nat → Int → Int → Bool → Option (Int)
 | 0, _, _, _ => none
 | k + 1, x0, x11, x20 => if x20 = true then (some 30) else (if x11 = 2 then (if (Int.tmod x0 400) = 0 then (some 29) else (if (Int.tmod x0 4) = 0 then (if (Int.tmod x0 100) = 0 then (some 28) else (some 29)) else (some 28))) else (some 0))
end
def gantletref13_Days.f (k : Nat) (a0 : Int) (a1 : Int) : Option (Int) := if a0 < 0 then (gantletref13_Days.j0 k a0 a1 true) else (gantletref13_Days.j0 k a0 a1 (decide (a0 > 9999)))
set_option maxHeartbeats 8000000 in
set_option maxRecDepth 100000 in
theorem gantletref13_Days.calls (k : Nat) (a0 : Int) (a1 : Int) (r : Int) (w : World) (h : gantletref13_Days.f k a0 a1 = some r) :
 Calls Try.prog 83 #[.int .i64 a0, .int .i64 a1] w fun e w' => e = .returned (.int .i64 r) ∧ Drawn0 w w' := by
 have H : (if a0 < 0 then (gantletref13_Days.j0 k a0 a1 true) else (gantletref13_Days.j0 k a0 a1 (decide (a0 > 9999)))) = some r := h
 clear h
 have HC3 := Aside0.mk H
 clear H
 go_enter Try.func83, Try.ntmps83
 go_upto_region 1 with (fail)
 go_cut [10] (fun v10 wc => ∃ (kq : Nat) (x10_2 : Bool), v10 = .bool x10_2 ∧ Aside0 (gantletref13_Days.j0 kq a0 a1 x10_2 = some r) ∧ Aside0 (kq ≤ k) ∧ Drawn0 w wc)
 case first =>
  have H := HC3.out
  clear HC3
  by_cases c4 : a0 < 0
  ·
   rw [if_pos c4] at H
   have c4b0 := decide_eq_true c4
   clear c4
   (first | rw [c4b0] | (simp only [i64_w, i32_w]; rw [c4b0]) | skip)
   have H' := Aside0.mk H
   clear H
   go_wp2
   go_meet
   case rel => exact ⟨_, (true), zz0, H', ⟨zz30⟩, zz1⟩
  ·
   rw [if_neg c4] at H
   have c4b0 := decide_eq_false c4
   clear c4
   (first | rw [c4b0] | (simp only [i64_w, i32_w]; rw [c4b0]) | skip)
   have H' := Aside0.mk H
   clear H
   go_wp2
   go_meet
   case rel => exact ⟨_, (decide (a0 > 9999)), zz0, H', ⟨zz30⟩, zz1⟩
 case rest =>
  clear HC3
  obtain ⟨kq, x10_2, rfl, HA, HJ2, ⟨mc2, rfl⟩⟩ := hcut
  cases kq with
  | zero => exact absurd HA.out (by simp [gantletref13_Days.j0])
  | succ kj2 =>
    have H := HA.out
    clear HA
    simp only [gantletref13_Days.j0] at H
    by_cases c5 : x10_2 = true
    ·
     subst c5
     rw [if_pos rfl] at H
     obtain rfl := Option.some.inj H
     go_wp2
     go_ret
     exact ⟨zz0, zz1⟩
    ·
     replace c5 := Bool.eq_false_iff.mpr c5
     subst c5
     rw [if_neg (show ¬ (false = true) by decide)] at H
     have HC6 := Aside0.mk H
     clear H
     go_upto_if 12 with (fail)
     go_cut [12] (fun v12 wc => ∃ (kq : Nat) (x12_5 : Bool), v12 = .bool x12_5 ∧ Aside0 (gantletref13_Days.j1 kq a0 a1 x12_5 = some r) ∧ Aside0 (kq ≤ kj2) ∧ Drawn0 w wc)
     case first =>
      have H := HC6.out
      clear HC6
      by_cases c7 : a1 = 1
      ·
       rw [if_pos c7] at H
       have c7b0 := beq_iff_eq.mpr c7
       have c7b1 := bne_eq_false_iff_eq.mpr c7
       clear c7
       (first | rw [c7b0] | (simp only [i64_w, i32_w]; rw [c7b0]) | skip)
       have H' := Aside0.mk H
       clear H
       go_wp2
       go_meet
       case rel => exact ⟨_, ((a1 == 1)), zz0, H', ⟨zz50⟩, zz1⟩
      ·
       rw [if_neg c7] at H
       have c7b0 := beq_eq_false_iff_ne.mpr c7
       have c7b1 := bne_iff_ne.mpr c7
       (first | rw [c7b0] | (simp only [i64_w, i32_w]; rw [c7b0]) | skip)
       by_cases c8 : a1 = 3
       ·
        rw [if_pos c8] at H
        have c8b0 := beq_iff_eq.mpr c8
        have c8b1 := bne_eq_false_iff_eq.mpr c8
        clear c8
        have H' := Aside0.mk H
        clear H
        go_wp2
        go_meet
        case rel => exact ⟨_, ((a1 == 3)), zz0, H', ⟨zz50⟩, zz1⟩
       ·
        rw [if_neg c8] at H
        have c8b0 := beq_eq_false_iff_ne.mpr c8
        have c8b1 := bne_iff_ne.mpr c8
        by_cases c9 : a1 = 5
        ·
         rw [if_pos c9] at H
         have c9b0 := beq_iff_eq.mpr c9
         have c9b1 := bne_eq_false_iff_eq.mpr c9
         clear c9
         have H' := Aside0.mk H
         clear H
         go_wp2
         go_meet
         case rel => exact ⟨_, ((a1 == 5)), zz0, H', ⟨zz50⟩, zz1⟩
        ·
         rw [if_neg c9] at H
         have c9b0 := beq_eq_false_iff_ne.mpr c9
         have c9b1 := bne_iff_ne.mpr c9
         by_cases c10 : a1 = 7
         ·
          rw [if_pos c10] at H
          have c10b0 := beq_iff_eq.mpr c10
          have c10b1 := bne_eq_false_iff_eq.mpr c10
          clear c10
          have H' := Aside0.mk H
          clear H
          go_wp2
          go_meet
          case rel => exact ⟨_, ((a1 == 7)), zz0, H', ⟨zz50⟩, zz1⟩
         ·
          rw [if_neg c10] at H
          have c10b0 := beq_eq_false_iff_ne.mpr c10
          have c10b1 := bne_iff_ne.mpr c10
          by_cases c11 : a1 = 8
          ·
           rw [if_pos c11] at H
           have c11b0 := beq_iff_eq.mpr c11
           have c11b1 := bne_eq_false_iff_eq.mpr c11
           clear c11
           have H' := Aside0.mk H
           clear H
           go_wp2
           go_meet
           case rel => exact ⟨_, ((a1 == 8)), zz0, H', ⟨zz50⟩, zz1⟩
          ·
           rw [if_neg c11] at H
           have c11b0 := beq_eq_false_iff_ne.mpr c11
           have c11b1 := bne_iff_ne.mpr c11
           by_cases c12 : a1 = 10
           ·
            rw [if_pos c12] at H
            have c12b0 := beq_iff_eq.mpr c12
            have c12b1 := bne_eq_false_iff_eq.mpr c12
            clear c12
            have H' := Aside0.mk H
            clear H
            go_wp2
            go_meet
            case rel => exact ⟨_, ((a1 == 10)), zz0, H', ⟨zz50⟩, zz1⟩
           ·
            rw [if_neg c12] at H
            have c12b0 := beq_eq_false_iff_ne.mpr c12
            have c12b1 := bne_iff_ne.mpr c12
            have H' := Aside0.mk H
            clear H
            go_wp2
            go_meet
            case rel => exact ⟨_, ((a1 == 12)), zz0, H', ⟨zz50⟩, zz1⟩
     case rest =>
      clear HC6
      try clear c5
      obtain ⟨kq, x12_5, rfl, HA, HJ5, ⟨mc5, rfl⟩⟩ := hcut
      cases kq with
      | zero => exact absurd HA.out (by simp [gantletref13_Days.j1])
      | succ kj5 =>
        have H := HA.out
        clear HA
        simp only [gantletref13_Days.j1] at H
        by_cases c13 : x12_5 = true
        ·
         subst c13
         rw [if_pos rfl] at H
         obtain rfl := Option.some.inj H
         go_wp2
         go_ret
         exact ⟨zz0, zz1⟩
        ·
         replace c13 := Bool.eq_false_iff.mpr c13
         subst c13
         rw [if_neg (show ¬ (false = true) by decide)] at H
         have HC14 := Aside0.mk H
         clear H
         go_upto_if 20 with (fail)
         go_cut [20] (fun v20 wc => ∃ (kq : Nat) (x20_13 : Bool), v20 = .bool x20_13 ∧ Aside0 (gantletref13_Days.j2 kq a0 a1 x20_13 = some r) ∧ Aside0 (kq ≤ kj5) ∧ Drawn0 w wc)
         case first =>
          have H := HC14.out
          clear HC14
          by_cases c15 : a1 = 4
          ·
           rw [if_pos c15] at H
           have c15b0 := beq_iff_eq.mpr c15
           have c15b1 := bne_eq_false_iff_eq.mpr c15
           clear c15
           (first | rw [c15b0] | (simp only [i64_w, i32_w]; rw [c15b0]) | skip)
           have H' := Aside0.mk H
           clear H
           go_wp2
           go_meet
           case rel => exact ⟨_, ((a1 == 4)), zz0, H', ⟨zz65⟩, zz1⟩
          ·
           rw [if_neg c15] at H
           have c15b0 := beq_eq_false_iff_ne.mpr c15
           have c15b1 := bne_iff_ne.mpr c15
           (first | rw [c15b0] | (simp only [i64_w, i32_w]; rw [c15b0]) | skip)
           by_cases c16 : a1 = 6
           ·
            rw [if_pos c16] at H
            have c16b0 := beq_iff_eq.mpr c16
            have c16b1 := bne_eq_false_iff_eq.mpr c16
            clear c16
            have H' := Aside0.mk H
            clear H
            go_wp2
            go_meet
            case rel => exact ⟨_, ((a1 == 6)), zz0, H', ⟨zz65⟩, zz1⟩
           ·
            rw [if_neg c16] at H
            have c16b0 := beq_eq_false_iff_ne.mpr c16
            have c16b1 := bne_iff_ne.mpr c16
            by_cases c17 : a1 = 9
            ·
             rw [if_pos c17] at H
             have c17b0 := beq_iff_eq.mpr c17
             have c17b1 := bne_eq_false_iff_eq.mpr c17
             clear c17
             have H' := Aside0.mk H
             clear H
             go_wp2
             go_meet
             case rel => exact ⟨_, ((a1 == 9)), zz0, H', ⟨zz65⟩, zz1⟩
            ·
             rw [if_neg c17] at H
             have c17b0 := beq_eq_false_iff_ne.mpr c17
             have c17b1 := bne_iff_ne.mpr c17
             have H' := Aside0.mk H
             clear H
             go_wp2
             go_meet
             case rel => exact ⟨_, ((a1 == 11)), zz0, H', ⟨zz65⟩, zz1⟩
         case rest =>
          clear HC14
          try clear c13
          obtain ⟨kq, x20_13, rfl, HA, HJ13, ⟨mc13, rfl⟩⟩ := hcut
          cases kq with
          | zero => exact absurd HA.out (by simp [gantletref13_Days.j2])
          | succ kj13 =>
            have H := HA.out
            clear HA
            simp only [gantletref13_Days.j2] at H
            by_cases c18 : x20_13 = true
            ·
             subst c18
             rw [if_pos rfl] at H
             obtain rfl := Option.some.inj H
             go_wp2
             go_ret
             exact ⟨zz0, zz1⟩
            ·
             replace c18 := Bool.eq_false_iff.mpr c18
             subst c18
             rw [if_neg (show ¬ (false = true) by decide)] at H
             by_cases c19 : a1 = 2
             ·
              rw [if_pos c19] at H
              have c19b0 := beq_iff_eq.mpr c19
              have c19b1 := bne_eq_false_iff_eq.mpr c19
              clear c19
              by_cases c20 : (Int.tmod a0 400) = 0
              ·
               rw [if_pos c20] at H
               have c20b0 := beq_iff_eq.mpr c20
               have c20b1 := bne_eq_false_iff_eq.mpr c20
               clear c20
               obtain rfl := Option.some.inj H
               go_wp2
               go_ret
               exact ⟨zz0, zz1⟩
              ·
               rw [if_neg c20] at H
               have c20b0 := beq_eq_false_iff_ne.mpr c20
               have c20b1 := bne_iff_ne.mpr c20
               by_cases c21 : (Int.tmod a0 4) = 0
               ·
                rw [if_pos c21] at H
                have c21b0 := beq_iff_eq.mpr c21
                have c21b1 := bne_eq_false_iff_eq.mpr c21
                clear c21
                by_cases c22 : (Int.tmod a0 100) = 0
                ·
                 rw [if_pos c22] at H
                 have c22b0 := beq_iff_eq.mpr c22
                 have c22b1 := bne_eq_false_iff_eq.mpr c22
                 clear c22
                 obtain rfl := Option.some.inj H
                 go_wp2
                 go_ret
                 exact ⟨zz0, zz1⟩
                ·
                 rw [if_neg c22] at H
                 have c22b0 := beq_eq_false_iff_ne.mpr c22
                 have c22b1 := bne_iff_ne.mpr c22
                 obtain rfl := Option.some.inj H
                 go_wp2
                 go_ret
                 exact ⟨zz0, zz1⟩
               ·
                rw [if_neg c21] at H
                have c21b0 := beq_eq_false_iff_ne.mpr c21
                have c21b1 := bne_iff_ne.mpr c21
                obtain rfl := Option.some.inj H
                go_wp2
                go_ret
                exact ⟨zz0, zz1⟩
             ·
              rw [if_neg c19] at H
              have c19b0 := beq_eq_false_iff_ne.mpr c19
              have c19b1 := bne_iff_ne.mpr c19
              obtain rfl := Option.some.inj H
              go_wp2
              go_ret
              exact ⟨zz0, zz1⟩
end Go.Proofs.Ytpfconocipmcjaa.PC
namespace Go.Proofs.Ytpfconocipmcjaa.PC
open RowKit YtpfconocipmcjaaW.PrintWords YtpfconocipmcjaaW.PrintLast YtpfconocipmcjaaW.PrintMore
attribute [local go_sem] max2_int min2_int max_two min_two max_three min_three max_four min_four
set_option linter.unusedVariables false
set_option linter.unusedSimpArgs false
mutual
def gantletref13_Date.l0 : Nat → ByteArray → Int → Option (Bool)
 | 0, _, _ => none
 | k + 1, x0, x3 => if x3 < 14 then ((gantletref13_two.f x0 x3).bind fun t220 => (if t220 < 0 then (some false) else (gantletref13_Date.l0 k x0 (wrap64 (x3 + 2))))) else ((gantletref13_two.f x0 6).bind fun t221 => (if t221 < 1 then (gantletref13_Date.j1 k x0 true) else ((gantletref13_two.f x0 0).bind fun t222 => ((gantletref13_two.f x0 2).bind fun t223 => ((gantletref13_two.f x0 4).bind fun t224 => ((gantletref13_Days.f k (wrap64 ((wrap64 (100 * t222)) + t223)) t224).bind fun t225 => (gantletref13_Date.j1 k x0 (decide (t221 > t225)))))))))
def gantletref13_Date.j1 : Nat → ByteArray → Bool → Option (Bool)
 | 0, _, _ => none
 | k + 1, x0, x32 => if x32 = true then (some false) else ((gantletref13_two.f x0 8).bind fun t226 => (if t226 < 24 then ((gantletref13_two.f x0 10).bind fun t227 => (if t227 < 60 then ((gantletref13_two.f x0 12).bind fun t228 => (some (decide (t228 < 60)))) else (some false))) else (some false)))
end
def gantletref13_Date.f (k : Nat) (a0 : ByteArray) : Option (Bool) := if (a0.size : Int) = 14 then (gantletref13_Date.l0 k a0 0) else (some false)
set_option maxHeartbeats 8000000 in
set_option maxRecDepth 100000 in
theorem gantletref13_Date.calls (k : Nat) (a0 : ByteArray) (r : Bool) (w : World) (h : gantletref13_Date.f k a0 = some r) :
 Calls Try.prog 80 #[.string a0] w fun e w' => e = .returned (.bool r) ∧ Drawn0 w w' := by
 have H : (if (a0.size : Int) = 14 then (gantletref13_Date.l0 k a0 0) else (some false)) = some r := h
 clear h
 by_cases c2 : (a0.size : Int) = 14
 ·
  rw [if_pos c2] at H
  have c2b0 := beq_iff_eq.mpr c2
  have c2b1 := bne_eq_false_iff_eq.mpr c2
  clear c2
  have H' := Aside0.mk H
  clear H
  go_enter Try.func80, Try.ntmps80
  go_wp2
  go_loopg [3] k (fun kq v3 w' => ∃ (x3_1 : Int), v3 = .int .i64 x3_1 ∧ Aside0 (gantletref13_Date.l0 kq a0 x3_1 = some r) ∧ Aside0 (kq ≤ k) ∧ Drawn0 w w')
  case atStart => exact ⟨(0), zz0, H', ⟨Nat.le_refl _⟩, zz1⟩
  case round =>
   clear H'
   try clear c2b0
   try clear c2b1
   obtain ⟨x3_1, rfl, HA, HK1, ⟨m1, rfl⟩⟩ := hrel
   cases gk with
   | zero => exact absurd HA.out (by simp [gantletref13_Date.l0])
   | succ k1 =>
     have H := HA.out
     clear HA
     simp only [gantletref13_Date.l0] at H
     by_cases c3 : x3_1 < 14
     ·
      rw [if_pos c3] at H
      have c3b0 := decide_eq_true c3
      clear c3
      replace H := Option.bind_eq_some_iff.mp H
      obtain ⟨t220, A40, H⟩ := H
      replace H : (if t220 < 0 then (some false) else (gantletref13_Date.l0 k1 a0 (wrap64 (x3_1 + 2)))) = some r := H
      have A4 := Aside0.mk A40
      clear A40
      by_cases c5 : t220 < 0
      ·
       rw [if_pos c5] at H
       have c5b0 := decide_eq_true c5
       clear c5
       obtain rfl := Option.some.inj H
       go_wp2_with (first | ((with_reducible refine gate_callee (f := 82) rfl ?_); refine goesL_ (some 14) rfl rfl Try.func82 zz8 rfl #[.string a0, .int .i64 x3_1] rfl zz5 ?_; (with_reducible refine (gantletref13_two.calls a0 x3_1 t220 _ A4.out).mono ?_); rintro e w' ⟨rfl, ⟨nd, rfl⟩⟩; refine ⟨_, rfl, ?_⟩))
       go_ret
       exact ⟨zz0, zz1⟩
      ·
       rw [if_neg c5] at H
       have c5b0 := decide_eq_false c5
       clear c5
       have H' := Aside0.mk H
       clear H
       go_wp2_with (first | ((with_reducible refine gate_callee (f := 82) rfl ?_); refine goesL_ (some 14) rfl rfl Try.func82 zz8 rfl #[.string a0, .int .i64 x3_1] rfl zz5 ?_; (with_reducible refine (gantletref13_two.calls a0 x3_1 t220 _ A4.out).mono ?_); rintro e w' ⟨rfl, ⟨nd, rfl⟩⟩; refine ⟨_, rfl, ?_⟩))
       go_roundg k1
       case measure => have := HK1.out; omega
       case rel => exact ⟨(wrap64 (x3_1 + 2)), zz0, H', ⟨zz59⟩, zz1⟩
     ·
      rw [if_neg c3] at H
      have c3b0 := decide_eq_false c3
      clear c3
      replace H := Option.bind_eq_some_iff.mp H
      obtain ⟨t221, A60, H⟩ := H
      replace H : (if t221 < 1 then (gantletref13_Date.j1 k1 a0 true) else ((gantletref13_two.f a0 0).bind fun t222 => ((gantletref13_two.f a0 2).bind fun t223 => ((gantletref13_two.f a0 4).bind fun t224 => ((gantletref13_Days.f k1 (wrap64 ((wrap64 (100 * t222)) + t223)) t224).bind fun t225 => (gantletref13_Date.j1 k1 a0 (decide (t221 > t225)))))))) = some r := H
      have A6 := Aside0.mk A60
      clear A60
      have HC7 := Aside0.mk H
      clear H
      go_upto_region 9 with (first | ((with_reducible refine gate_callee (f := 82) rfl ?_); refine goesL_ (some 17) rfl rfl Try.func82 zz8 rfl #[.string a0, .int .i64 6] rfl zz5 ?_; (with_reducible refine (gantletref13_two.calls a0 6 t221 _ A6.out).mono ?_); rintro e w' ⟨rfl, ⟨nd, rfl⟩⟩; refine ⟨_, rfl, ?_⟩))
      (try simp only [Act.put, List.setIfInBounds_toArray, List.set_cons_zero, List.set_cons_succ])
      go_cut [32] (fun v32 wc => ∃ (kq : Nat) (x32_6 : Bool), v32 = .bool x32_6 ∧ Aside0 (gantletref13_Date.j1 kq a0 x32_6 = some r) ∧ Aside0 (kq ≤ k1) ∧ Drawn0 w wc)
      case first =>
       have H := HC7.out
       clear HC7
       by_cases c8 : t221 < 1
       ·
        rw [if_pos c8] at H
        have c8b0 := decide_eq_true c8
        clear c8
        (first | rw [c8b0] | (simp only [i64_w, i32_w]; rw [c8b0]) | skip)
        have H' := Aside0.mk H
        clear H
        go_wp2
        go_meet
        case rel => exact ⟨_, (true), zz0, H', ⟨zz51⟩, zz1⟩
       ·
        rw [if_neg c8] at H
        have c8b0 := decide_eq_false c8
        clear c8
        (first | rw [c8b0] | (simp only [i64_w, i32_w]; rw [c8b0]) | skip)
        replace H := Option.bind_eq_some_iff.mp H
        obtain ⟨t222, A90, H⟩ := H
        replace H : ((gantletref13_two.f a0 2).bind fun t223 => ((gantletref13_two.f a0 4).bind fun t224 => ((gantletref13_Days.f k1 (wrap64 ((wrap64 (100 * t222)) + t223)) t224).bind fun t225 => (gantletref13_Date.j1 k1 a0 (decide (t221 > t225)))))) = some r := H
        have A9 := Aside0.mk A90
        clear A90
        replace H := Option.bind_eq_some_iff.mp H
        obtain ⟨t223, A100, H⟩ := H
        replace H : ((gantletref13_two.f a0 4).bind fun t224 => ((gantletref13_Days.f k1 (wrap64 ((wrap64 (100 * t222)) + t223)) t224).bind fun t225 => (gantletref13_Date.j1 k1 a0 (decide (t221 > t225))))) = some r := H
        have A10 := Aside0.mk A100
        clear A100
        replace H := Option.bind_eq_some_iff.mp H
        obtain ⟨t224, A110, H⟩ := H
        replace H : ((gantletref13_Days.f k1 (wrap64 ((wrap64 (100 * t222)) + t223)) t224).bind fun t225 => (gantletref13_Date.j1 k1 a0 (decide (t221 > t225)))) = some r := H
        have A11 := Aside0.mk A110
        clear A110
        replace H := Option.bind_eq_some_iff.mp H
        obtain ⟨t225, A120, H⟩ := H
        replace H : (gantletref13_Date.j1 k1 a0 (decide (t221 > t225))) = some r := H
        have A12 := Aside0.mk A120
        clear A120
        have H' := Aside0.mk H
        clear H
        go_wp2_with (first | (go_at_call 82; (with_reducible refine (gantletref13_two.calls a0 0 t222 _ A9.out).mono ?_); rintro e w' ⟨rfl, ⟨nd, rfl⟩⟩) | (go_at_call 82; (with_reducible refine (gantletref13_two.calls a0 2 t223 _ A10.out).mono ?_); rintro e w' ⟨rfl, ⟨nd, rfl⟩⟩) | (go_at_call 82; (with_reducible refine (gantletref13_two.calls a0 4 t224 _ A11.out).mono ?_); rintro e w' ⟨rfl, ⟨nd, rfl⟩⟩) | (go_at_call 83; (with_reducible refine (gantletref13_Days.calls k1 (wrap64 ((wrap64 (100 * t222)) + t223)) t224 t225 _ A12.out).mono ?_); rintro e w' ⟨rfl, ⟨nd, rfl⟩⟩))
        go_meet
        case rel => exact ⟨_, (decide (t221 > t225)), zz0, H', ⟨zz51⟩, zz1⟩
      case rest =>
       clear HC7
       try clear c3b0
       obtain ⟨kq, x32_6, rfl, HA, HJ6, ⟨mc6, rfl⟩⟩ := hcut
       cases kq with
       | zero => exact absurd HA.out (by simp [gantletref13_Date.j1])
       | succ kj6 =>
         have H := HA.out
         clear HA
         simp only [gantletref13_Date.j1] at H
         by_cases c13 : x32_6 = true
         ·
          subst c13
          rw [if_pos rfl] at H
          obtain rfl := Option.some.inj H
          go_wp2
          go_ret
          exact ⟨zz0, zz1⟩
         ·
          replace c13 := Bool.eq_false_iff.mpr c13
          subst c13
          rw [if_neg (show ¬ (false = true) by decide)] at H
          replace H := Option.bind_eq_some_iff.mp H
          obtain ⟨t226, A140, H⟩ := H
          replace H : (if t226 < 24 then ((gantletref13_two.f a0 10).bind fun t227 => (if t227 < 60 then ((gantletref13_two.f a0 12).bind fun t228 => (some (decide (t228 < 60)))) else (some false))) else (some false)) = some r := H
          have A14 := Aside0.mk A140
          clear A140
          by_cases c15 : t226 < 24
          ·
           rw [if_pos c15] at H
           have c15b0 := decide_eq_true c15
           clear c15
           replace H := Option.bind_eq_some_iff.mp H
           obtain ⟨t227, A160, H⟩ := H
           replace H : (if t227 < 60 then ((gantletref13_two.f a0 12).bind fun t228 => (some (decide (t228 < 60)))) else (some false)) = some r := H
           have A16 := Aside0.mk A160
           clear A160
           by_cases c17 : t227 < 60
           ·
            rw [if_pos c17] at H
            have c17b0 := decide_eq_true c17
            clear c17
            replace H := Option.bind_eq_some_iff.mp H
            obtain ⟨t228, A180, H⟩ := H
            replace H : (some (decide (t228 < 60))) = some r := H
            have A18 := Aside0.mk A180
            clear A180
            obtain rfl := Option.some.inj H
            go_wp2_with (first | ((with_reducible refine gate_callee (f := 82) rfl ?_); refine goesL_ (some 34) rfl rfl Try.func82 zz8 rfl #[.string a0, .int .i64 8] rfl zz5 ?_; (with_reducible refine (gantletref13_two.calls a0 8 t226 _ A14.out).mono ?_); rintro e w' ⟨rfl, ⟨nd, rfl⟩⟩; refine ⟨_, rfl, ?_⟩) | (go_at_call 82; (with_reducible refine (gantletref13_two.calls a0 10 t227 _ A16.out).mono ?_); rintro e w' ⟨rfl, ⟨nd, rfl⟩⟩) | (go_at_call 82; (with_reducible refine (gantletref13_two.calls a0 12 t228 _ A18.out).mono ?_); rintro e w' ⟨rfl, ⟨nd, rfl⟩⟩))
            go_ret
            exact ⟨zz0, zz1⟩
           ·
            rw [if_neg c17] at H
            have c17b0 := decide_eq_false c17
            clear c17
            obtain rfl := Option.some.inj H
            go_wp2_with (first | ((with_reducible refine gate_callee (f := 82) rfl ?_); refine goesL_ (some 34) rfl rfl Try.func82 zz8 rfl #[.string a0, .int .i64 8] rfl zz5 ?_; (with_reducible refine (gantletref13_two.calls a0 8 t226 _ A14.out).mono ?_); rintro e w' ⟨rfl, ⟨nd, rfl⟩⟩; refine ⟨_, rfl, ?_⟩) | (go_at_call 82; (with_reducible refine (gantletref13_two.calls a0 10 t227 _ A16.out).mono ?_); rintro e w' ⟨rfl, ⟨nd, rfl⟩⟩))
            go_ret
            exact ⟨zz0, zz1⟩
          ·
           rw [if_neg c15] at H
           have c15b0 := decide_eq_false c15
           clear c15
           obtain rfl := Option.some.inj H
           go_wp2_with (first | ((with_reducible refine gate_callee (f := 82) rfl ?_); refine goesL_ (some 34) rfl rfl Try.func82 zz8 rfl #[.string a0, .int .i64 8] rfl zz5 ?_; (with_reducible refine (gantletref13_two.calls a0 8 t226 _ A14.out).mono ?_); rintro e w' ⟨rfl, ⟨nd, rfl⟩⟩; refine ⟨_, rfl, ?_⟩))
           go_ret
           exact ⟨zz0, zz1⟩
 ·
  rw [if_neg c2] at H
  have c2b0 := beq_eq_false_iff_ne.mpr c2
  have c2b1 := bne_iff_ne.mpr c2
  obtain rfl := Option.some.inj H
  go_enter Try.func80, Try.ntmps80
  go_wp2
  go_ret
  exact ⟨zz0, zz1⟩
def gantletref13_Full.f (a0 : Int) (a1 : ByteArray) : Option (ByteArray) := if a0 = 24 then (if 0 ≤ 14 then (if 14 ≤ (a1.size : Int) then (some (a1.extract 0 14)) else (none)) else (none)) else (if 0 < (a1.size : Int) then (if (bt a1 0) < 53 then (if 0 ≤ 12 then (if 12 ≤ (a1.size : Int) then (if 2 + (a1.extract 0 12).size ≤ 9223372036854775807 then (some ((⟨#[50, 48]⟩ : ByteArray) ++ (a1.extract 0 12))) else (none)) else (none)) else (none)) else (if 0 ≤ 12 then (if 12 ≤ (a1.size : Int) then (if 2 + (a1.extract 0 12).size ≤ 9223372036854775807 then (some ((⟨#[49, 57]⟩ : ByteArray) ++ (a1.extract 0 12))) else (none)) else (none)) else (none))) else (none))
set_option maxHeartbeats 8000000 in
set_option maxRecDepth 100000 in
theorem gantletref13_Full.calls (a0 : Int) (a1 : ByteArray) (r : ByteArray) (w : World) (h : gantletref13_Full.f a0 a1 = some r) :
 Calls Try.prog 81 #[.int .i64 a0, .string a1] w fun e w' => e = .returned (.string r) ∧ Drawn0 w w' := by
 have H : (if a0 = 24 then (if 0 ≤ 14 then (if 14 ≤ (a1.size : Int) then (some (a1.extract 0 14)) else (none)) else (none)) else (if 0 < (a1.size : Int) then (if (bt a1 0) < 53 then (if 0 ≤ 12 then (if 12 ≤ (a1.size : Int) then (if 2 + (a1.extract 0 12).size ≤ 9223372036854775807 then (some ((⟨#[50, 48]⟩ : ByteArray) ++ (a1.extract 0 12))) else (none)) else (none)) else (none)) else (if 0 ≤ 12 then (if 12 ≤ (a1.size : Int) then (if 2 + (a1.extract 0 12).size ≤ 9223372036854775807 then (some ((⟨#[49, 57]⟩ : ByteArray) ++ (a1.extract 0 12))) else (none)) else (none)) else (none))) else (none))) = some r := h
 clear h
 by_cases c3 : a0 = 24
 ·
  rw [if_pos c3] at H
  have c3b0 := beq_iff_eq.mpr c3
  have c3b1 := bne_eq_false_iff_eq.mpr c3
  clear c3
  by_cases c4 : 0 ≤ 14
  ·
   rw [if_pos c4] at H
   have c4b0 := eq_true c4
   have c4b1 := decide_eq_true c4
   clear c4
   by_cases c5 : 14 ≤ (a1.size : Int)
   ·
    rw [if_pos c5] at H
    have c5b0 := eq_true c5
    have c5b1 := decide_eq_true c5
    clear c5
    obtain rfl := Option.some.inj H
    go_enter Try.func81, Try.ntmps81
    go_wp2
    go_ret
    exact ⟨zz0, zz1⟩
   ·
    rw [if_neg c5] at H
    exact absurd H zz29
  ·
   rw [if_neg c4] at H
   exact absurd H zz29
 ·
  rw [if_neg c3] at H
  have c3b0 := beq_eq_false_iff_ne.mpr c3
  have c3b1 := bne_iff_ne.mpr c3
  by_cases c6 : 0 < (a1.size : Int)
  ·
   rw [if_pos c6] at H
   have c6b0 := decide_eq_true c6
   have c6b1 : decide (0 < a1.size) = true := decide_eq_true zz3
   clear c6
   by_cases c8 : (bt a1 0) < 53
   ·
    rw [if_pos c8] at H
    have c8b0 := decide_eq_true c8
    clear c8
    by_cases c9 : 0 ≤ 12
    ·
     rw [if_pos c9] at H
     have c9b0 := eq_true c9
     have c9b1 := decide_eq_true c9
     clear c9
     by_cases c10 : 12 ≤ (a1.size : Int)
     ·
      rw [if_pos c10] at H
      have c10b0 := eq_true c10
      have c10b1 := decide_eq_true c10
      clear c10
      by_cases c11 : 2 + (a1.extract 0 12).size ≤ 9223372036854775807
      ·
       rw [if_pos c11] at H
       have c11b0 := eq_true c11
       have c11b1 := decide_eq_true c11
       try have c11b2 : (9223372036854775807 < 2 + (a1.extract 0 12).size) = False := eq_false (Nat.not_lt.2 c11)
       obtain rfl := Option.some.inj H
       have p7 : 0 ≤ (0 : Int) := zz3
       have q7 : 0 < a1.size := (by have : (0 : Int) < (a1.size : Int) := of_decide_eq_true zz4; omega)
       have hx7 : ∀ h : 0 < a1.size, ((a1[0]'h).toNat : Int) = bt a1 0 := bt_at a1 0
       clear p7
       have qi7 : (0 < (a1.size : Int)) = True := eq_true (of_decide_eq_true zz4)
       replace q7 := eq_true q7
       go_enter Try.func81, Try.ntmps81
       go_wp2
       go_ret
       exact ⟨zz0, zz1⟩
      ·
       rw [if_neg c11] at H
       exact absurd H zz29
     ·
      rw [if_neg c10] at H
      exact absurd H zz29
    ·
     rw [if_neg c9] at H
     exact absurd H zz29
   ·
    rw [if_neg c8] at H
    have c8b0 := decide_eq_false c8
    clear c8
    by_cases c12 : 0 ≤ 12
    ·
     rw [if_pos c12] at H
     have c12b0 := eq_true c12
     have c12b1 := decide_eq_true c12
     clear c12
     by_cases c13 : 12 ≤ (a1.size : Int)
     ·
      rw [if_pos c13] at H
      have c13b0 := eq_true c13
      have c13b1 := decide_eq_true c13
      clear c13
      by_cases c14 : 2 + (a1.extract 0 12).size ≤ 9223372036854775807
      ·
       rw [if_pos c14] at H
       have c14b0 := eq_true c14
       have c14b1 := decide_eq_true c14
       try have c14b2 : (9223372036854775807 < 2 + (a1.extract 0 12).size) = False := eq_false (Nat.not_lt.2 c14)
       obtain rfl := Option.some.inj H
       have p7 : 0 ≤ (0 : Int) := zz3
       have q7 : 0 < a1.size := (by have : (0 : Int) < (a1.size : Int) := of_decide_eq_true zz4; omega)
       have hx7 : ∀ h : 0 < a1.size, ((a1[0]'h).toNat : Int) = bt a1 0 := bt_at a1 0
       clear p7
       have qi7 : (0 < (a1.size : Int)) = True := eq_true (of_decide_eq_true zz4)
       replace q7 := eq_true q7
       go_enter Try.func81, Try.ntmps81
       go_wp2
       go_ret
       exact ⟨zz0, zz1⟩
      ·
       rw [if_neg c14] at H
       exact absurd H zz29
     ·
      rw [if_neg c13] at H
      exact absurd H zz29
    ·
     rw [if_neg c12] at H
     exact absurd H zz29
  ·
   rw [if_neg c6] at H
   exact absurd H zz29
end Go.Proofs.Ytpfconocipmcjaa.PC
