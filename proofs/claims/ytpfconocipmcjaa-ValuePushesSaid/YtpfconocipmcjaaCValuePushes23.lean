/- What the row of ValuePushes stands on, made small by a program of this session (pack.py). -/
import Derived.Test.YtpfconocipmcjaaCValuePushes2
import Derived.Test.YtpfconocipmcjaaCValuePushes4
import Derived.Test.YtpfconocipmcjaaCValuePushes21
namespace Go.Proofs.Ytpfconocipmcjaa.PC
open RowKit YtpfconocipmcjaaW.PrintWords YtpfconocipmcjaaW.PrintLast YtpfconocipmcjaaW.PrintMore
attribute [local go_sem] max2_int min2_int max_two min_two max_three min_three max_four min_four
set_option linter.unusedVariables false
set_option linter.unusedSimpArgs false
def gantletref13_Right.f (k : Nat) (a0 : Int) (a1 : ByteArray) : Option (Bool) := if a0 = 23 then (if (a1.size : Int) = 13 then (if 12 < (a1.size : Int) then (if (bt a1 12) = 90 then ((gantletref13_Full.f 23 a1).bind fun t229 => ((gantletref13_Date.f k t229).bind fun t230 => (some t230))) else (some false)) else (none)) else (some false)) else (if a0 = 24 then (if (a1.size : Int) = 15 then (if 14 < (a1.size : Int) then (if (bt a1 14) = 90 then ((gantletref13_Full.f 24 a1).bind fun t231 => ((gantletref13_Date.f k t231).bind fun t232 => (if t232 = true then (if 0 ≤ 4 then (if 4 ≤ (a1.size : Int) then (some (!(Op.bytesLess ((a1.extract 0 4).toList) ([50, 48, 53, 48] : List UInt8)))) else (none)) else (none)) else (some false)))) else (some false)) else (none)) else (some false)) else (some false))
set_option maxHeartbeats 8000000 in
set_option maxRecDepth 100000 in
theorem gantletref13_Right.calls (k : Nat) (a0 : Int) (a1 : ByteArray) (r : Bool) (w : World) (h : gantletref13_Right.f k a0 a1 = some r) :
 Calls Try.prog 75 #[.int .i64 a0, .string a1] w fun e w' => e = .returned (.bool r) ∧ Drawn0 w w' := by
 have H : (if a0 = 23 then (if (a1.size : Int) = 13 then (if 12 < (a1.size : Int) then (if (bt a1 12) = 90 then ((gantletref13_Full.f 23 a1).bind fun t229 => ((gantletref13_Date.f k t229).bind fun t230 => (some t230))) else (some false)) else (none)) else (some false)) else (if a0 = 24 then (if (a1.size : Int) = 15 then (if 14 < (a1.size : Int) then (if (bt a1 14) = 90 then ((gantletref13_Full.f 24 a1).bind fun t231 => ((gantletref13_Date.f k t231).bind fun t232 => (if t232 = true then (if 0 ≤ 4 then (if 4 ≤ (a1.size : Int) then (some (!(Op.bytesLess ((a1.extract 0 4).toList) ([50, 48, 53, 48] : List UInt8)))) else (none)) else (none)) else (some false)))) else (some false)) else (none)) else (some false)) else (some false))) = some r := h
 clear h
 by_cases c3 : a0 = 23
 ·
  rw [if_pos c3] at H
  have c3b0 := beq_iff_eq.mpr c3
  have c3b1 := bne_eq_false_iff_eq.mpr c3
  clear c3
  by_cases c4 : (a1.size : Int) = 13
  ·
   rw [if_pos c4] at H
   have c4b0 := beq_iff_eq.mpr c4
   have c4b1 := bne_eq_false_iff_eq.mpr c4
   clear c4
   by_cases c5 : 12 < (a1.size : Int)
   ·
    rw [if_pos c5] at H
    have c5b0 := decide_eq_true c5
    have c5b1 : decide (12 < a1.size) = true := decide_eq_true zz3
    clear c5
    by_cases c7 : (bt a1 12) = 90
    ·
     rw [if_pos c7] at H
     have c7b0 := beq_iff_eq.mpr c7
     have c7b1 := bne_eq_false_iff_eq.mpr c7
     clear c7
     replace H := Option.bind_eq_some_iff.mp H
     obtain ⟨t229, A80, H⟩ := H
     replace H : ((gantletref13_Date.f k t229).bind fun t230 => (some t230)) = some r := H
     have A8 := Aside0.mk A80
     clear A80
     replace H := Option.bind_eq_some_iff.mp H
     obtain ⟨t230, A90, H⟩ := H
     replace H : (some t230) = some r := H
     have A9 := Aside0.mk A90
     clear A90
     obtain rfl := Option.some.inj H
     have p6 : 0 ≤ (12 : Int) := zz3
     have q6 : 12 < a1.size := (by have : (12 : Int) < (a1.size : Int) := of_decide_eq_true zz4; omega)
     have hx6 : ∀ h : 12 < a1.size, ((a1[12]'h).toNat : Int) = bt a1 12 := bt_at a1 12
     clear p6
     have qi6 : (12 < (a1.size : Int)) = True := eq_true (of_decide_eq_true zz4)
     replace q6 := eq_true q6
     go_enter Try.func75, Try.ntmps75
     go_wp2_with (first | (go_at_call 81; (with_reducible refine (gantletref13_Full.calls 23 a1 t229 _ A8.out).mono ?_); rintro e w' ⟨rfl, ⟨nd, rfl⟩⟩) | (go_at_call 80; (with_reducible refine (gantletref13_Date.calls k t229 t230 _ A9.out).mono ?_); rintro e w' ⟨rfl, ⟨nd, rfl⟩⟩))
     go_ret
     exact ⟨zz0, zz1⟩
    ·
     rw [if_neg c7] at H
     have c7b0 := beq_eq_false_iff_ne.mpr c7
     have c7b1 := bne_iff_ne.mpr c7
     obtain rfl := Option.some.inj H
     have p6 : 0 ≤ (12 : Int) := zz3
     have q6 : 12 < a1.size := (by have : (12 : Int) < (a1.size : Int) := of_decide_eq_true zz4; omega)
     have hx6 : ∀ h : 12 < a1.size, ((a1[12]'h).toNat : Int) = bt a1 12 := bt_at a1 12
     clear p6
     have qi6 : (12 < (a1.size : Int)) = True := eq_true (of_decide_eq_true zz4)
     replace q6 := eq_true q6
     go_enter Try.func75, Try.ntmps75
     go_wp2
     go_ret
     exact ⟨zz0, zz1⟩
   ·
    rw [if_neg c5] at H
    exact absurd H zz29
  ·
   rw [if_neg c4] at H
   have c4b0 := beq_eq_false_iff_ne.mpr c4
   have c4b1 := bne_iff_ne.mpr c4
   obtain rfl := Option.some.inj H
   go_enter Try.func75, Try.ntmps75
   go_wp2
   go_ret
   exact ⟨zz0, zz1⟩
 ·
  rw [if_neg c3] at H
  have c3b0 := beq_eq_false_iff_ne.mpr c3
  have c3b1 := bne_iff_ne.mpr c3
  by_cases c10 : a0 = 24
  ·
   rw [if_pos c10] at H
   have c10b0 := beq_iff_eq.mpr c10
   have c10b1 := bne_eq_false_iff_eq.mpr c10
   clear c10
   by_cases c11 : (a1.size : Int) = 15
   ·
    rw [if_pos c11] at H
    have c11b0 := beq_iff_eq.mpr c11
    have c11b1 := bne_eq_false_iff_eq.mpr c11
    clear c11
    by_cases c12 : 14 < (a1.size : Int)
    ·
     rw [if_pos c12] at H
     have c12b0 := decide_eq_true c12
     have c12b1 : decide (14 < a1.size) = true := decide_eq_true zz3
     clear c12
     by_cases c14 : (bt a1 14) = 90
     ·
      rw [if_pos c14] at H
      have c14b0 := beq_iff_eq.mpr c14
      have c14b1 := bne_eq_false_iff_eq.mpr c14
      clear c14
      replace H := Option.bind_eq_some_iff.mp H
      obtain ⟨t231, A150, H⟩ := H
      replace H : ((gantletref13_Date.f k t231).bind fun t232 => (if t232 = true then (if 0 ≤ 4 then (if 4 ≤ (a1.size : Int) then (some (!(Op.bytesLess ((a1.extract 0 4).toList) ([50, 48, 53, 48] : List UInt8)))) else (none)) else (none)) else (some false))) = some r := H
      have A15 := Aside0.mk A150
      clear A150
      replace H := Option.bind_eq_some_iff.mp H
      obtain ⟨t232, A160, H⟩ := H
      replace H : (if t232 = true then (if 0 ≤ 4 then (if 4 ≤ (a1.size : Int) then (some (!(Op.bytesLess ((a1.extract 0 4).toList) ([50, 48, 53, 48] : List UInt8)))) else (none)) else (none)) else (some false)) = some r := H
      have A16 := Aside0.mk A160
      clear A160
      by_cases c17 : t232 = true
      ·
       subst c17
       rw [if_pos rfl] at H
       by_cases c18 : 0 ≤ 4
       ·
        rw [if_pos c18] at H
        have c18b0 := eq_true c18
        have c18b1 := decide_eq_true c18
        clear c18
        by_cases c19 : 4 ≤ (a1.size : Int)
        ·
         rw [if_pos c19] at H
         have c19b0 := eq_true c19
         have c19b1 := decide_eq_true c19
         clear c19
         obtain rfl := Option.some.inj H
         have p13 : 0 ≤ (14 : Int) := zz3
         have q13 : 14 < a1.size := (by have : (14 : Int) < (a1.size : Int) := of_decide_eq_true zz4; omega)
         have hx13 : ∀ h : 14 < a1.size, ((a1[14]'h).toNat : Int) = bt a1 14 := bt_at a1 14
         clear p13
         have qi13 : (14 < (a1.size : Int)) = True := eq_true (of_decide_eq_true zz4)
         replace q13 := eq_true q13
         go_enter Try.func75, Try.ntmps75
         go_wp2_with (first | (go_at_call 81; (with_reducible refine (gantletref13_Full.calls 24 a1 t231 _ A15.out).mono ?_); rintro e w' ⟨rfl, ⟨nd, rfl⟩⟩) | (go_at_call 80; (with_reducible refine (gantletref13_Date.calls k t231 true _ A16.out).mono ?_); rintro e w' ⟨rfl, ⟨nd, rfl⟩⟩))
         go_ret
         exact ⟨zz0, zz1⟩
        ·
         rw [if_neg c19] at H
         exact absurd H zz29
       ·
        rw [if_neg c18] at H
        exact absurd H zz29
      ·
       replace c17 := Bool.eq_false_iff.mpr c17
       subst c17
       rw [if_neg (show ¬ (false = true) by decide)] at H
       obtain rfl := Option.some.inj H
       have p13 : 0 ≤ (14 : Int) := zz3
       have q13 : 14 < a1.size := (by have : (14 : Int) < (a1.size : Int) := of_decide_eq_true zz4; omega)
       have hx13 : ∀ h : 14 < a1.size, ((a1[14]'h).toNat : Int) = bt a1 14 := bt_at a1 14
       clear p13
       have qi13 : (14 < (a1.size : Int)) = True := eq_true (of_decide_eq_true zz4)
       replace q13 := eq_true q13
       go_enter Try.func75, Try.ntmps75
       go_wp2_with (first | (go_at_call 81; (with_reducible refine (gantletref13_Full.calls 24 a1 t231 _ A15.out).mono ?_); rintro e w' ⟨rfl, ⟨nd, rfl⟩⟩) | (go_at_call 80; (with_reducible refine (gantletref13_Date.calls k t231 false _ A16.out).mono ?_); rintro e w' ⟨rfl, ⟨nd, rfl⟩⟩))
       go_ret
       exact ⟨zz0, zz1⟩
     ·
      rw [if_neg c14] at H
      have c14b0 := beq_eq_false_iff_ne.mpr c14
      have c14b1 := bne_iff_ne.mpr c14
      obtain rfl := Option.some.inj H
      have p13 : 0 ≤ (14 : Int) := zz3
      have q13 : 14 < a1.size := (by have : (14 : Int) < (a1.size : Int) := of_decide_eq_true zz4; omega)
      have hx13 : ∀ h : 14 < a1.size, ((a1[14]'h).toNat : Int) = bt a1 14 := bt_at a1 14
      clear p13
      have qi13 : (14 < (a1.size : Int)) = True := eq_true (of_decide_eq_true zz4)
      replace q13 := eq_true q13
      go_enter Try.func75, Try.ntmps75
      go_wp2
      go_ret
      exact ⟨zz0, zz1⟩
    ·
     rw [if_neg c12] at H
     exact absurd H zz29
   ·
    rw [if_neg c11] at H
    have c11b0 := beq_eq_false_iff_ne.mpr c11
    have c11b1 := bne_iff_ne.mpr c11
    obtain rfl := Option.some.inj H
    go_enter Try.func75, Try.ntmps75
    go_wp2
    go_ret
    exact ⟨zz0, zz1⟩
  ·
   rw [if_neg c10] at H
   have c10b0 := beq_eq_false_iff_ne.mpr c10
   have c10b1 := bne_iff_ne.mpr c10
   obtain rfl := Option.some.inj H
   go_enter Try.func75, Try.ntmps75
   go_wp2
   go_ret
   exact ⟨zz0, zz1⟩
end Go.Proofs.Ytpfconocipmcjaa.PC
