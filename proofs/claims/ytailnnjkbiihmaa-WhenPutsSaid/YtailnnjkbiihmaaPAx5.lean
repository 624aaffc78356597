-- Written by a program of this session (print2, a turned print): not PRINTED BY print.sh
import Derived.Test.YtailnnjkbiihmaaPAx0
import Derived.Test.YtailnnjkbiihmaaPAx3
import Derived.Test.YtailnnjkbiihmaaPAx4
namespace Go.Proofs.Ytailnnjkbiihmaa.PA
open Go.RowKit Go.Proofs.YtailnnjkbiihmaaW.PrintWords Go.Proofs.YtailnnjkbiihmaaW.PrintLast Go.Proofs.YtailnnjkbiihmaaW.PrintMore
attribute [local go_sem] max2_int min2_int max_two min_two max_three min_three max_four min_four   -- for this text's walks alone
set_option linter.unusedVariables false
set_option linter.unusedSimpArgs false

/-! ### gantletref13_Full: function 17 -/
def gantletref13_Full.f (a0 : Int) (a1 : ByteArray) : Option (ByteArray) := if a0 = 24 then (if 0 ≤ 14 then (if 14 ≤ (a1.size : Int) then (some (a1.extract 0 14)) else (none)) else (none)) else (if 0 < (a1.size : Int) then (if (bt a1 0) < 53 then (if 0 ≤ 12 then (if 12 ≤ (a1.size : Int) then (if 2 + (a1.extract 0 12).size ≤ 9223372036854775807 then (some ((⟨#[50, 48]⟩ : ByteArray) ++ (a1.extract 0 12))) else (none)) else (none)) else (none)) else (if 0 ≤ 12 then (if 12 ≤ (a1.size : Int) then (if 2 + (a1.extract 0 12).size ≤ 9223372036854775807 then (some ((⟨#[49, 57]⟩ : ByteArray) ++ (a1.extract 0 12))) else (none)) else (none)) else (none))) else (none))
set_option maxHeartbeats 8000000 in
set_option maxRecDepth 100000 in
theorem gantletref13_Full.calls (a0 : Int) (a1 : ByteArray) (r : ByteArray) (w : World) (h : gantletref13_Full.f a0 a1 = some r) :
    Calls Try.prog 17 #[.int .i64 a0, .string a1] w fun e w' => e = .returned (.string r) ∧ Drawn0 w w' := by
  have H : (if a0 = 24 then (if 0 ≤ 14 then (if 14 ≤ (a1.size : Int) then (some (a1.extract 0 14)) else (none)) else (none)) else (if 0 < (a1.size : Int) then (if (bt a1 0) < 53 then (if 0 ≤ 12 then (if 12 ≤ (a1.size : Int) then (if 2 + (a1.extract 0 12).size ≤ 9223372036854775807 then (some ((⟨#[50, 48]⟩ : ByteArray) ++ (a1.extract 0 12))) else (none)) else (none)) else (none)) else (if 0 ≤ 12 then (if 12 ≤ (a1.size : Int) then (if 2 + (a1.extract 0 12).size ≤ 9223372036854775807 then (some ((⟨#[49, 57]⟩ : ByteArray) ++ (a1.extract 0 12))) else (none)) else (none)) else (none))) else (none))) = some r := h
  clear h
  by_cases c3 : a0 = 24
  · rw [if_pos c3] at H
    have c3b0 : (a0 == 24) = true := beq_iff_eq.mpr c3
    have c3b1 : (a0 != 24) = false := bne_eq_false_iff_eq.mpr c3
    clear c3
    by_cases c4 : 0 ≤ 14
    · rw [if_pos c4] at H
      have c4b0 := eq_true c4
      have c4b1 : decide (0 ≤ 14) = true := decide_eq_true c4
      clear c4
      by_cases c5 : 14 ≤ (a1.size : Int)
      · rw [if_pos c5] at H
        have c5b0 := eq_true c5
        have c5b1 : decide (14 ≤ (a1.size : Int)) = true := decide_eq_true c5
        clear c5
        obtain rfl := Option.some.inj H
        go_enter Try.func17, Try.ntmps17
        go_wp2
        go_ret
        exact ⟨by first | rfl | (simp; done) | (simp [*]; done), by repeat (first | exact Drawn0.refl _ | apply Drawn0.step)⟩
      · rw [if_neg c5] at H
        exact absurd H (by simp)
    · rw [if_neg c4] at H
      exact absurd H (by simp)
  · rw [if_neg c3] at H
    have c3b0 : (a0 == 24) = false := beq_eq_false_iff_ne.mpr c3
    have c3b1 : (a0 != 24) = true := bne_iff_ne.mpr c3
    by_cases c6 : 0 < (a1.size : Int)
    · rw [if_pos c6] at H
      have c6b0 : decide (0 < (a1.size : Int)) = true := decide_eq_true c6
      have c6b1 : decide (0 < a1.size) = true := decide_eq_true (by omega)
      clear c6
      by_cases c8 : (bt a1 0) < 53
      · rw [if_pos c8] at H
        have c8b0 : decide ((bt a1 0) < 53) = true := decide_eq_true c8
        clear c8
        by_cases c9 : 0 ≤ 12
        · rw [if_pos c9] at H
          have c9b0 := eq_true c9
          have c9b1 : decide (0 ≤ 12) = true := decide_eq_true c9
          clear c9
          by_cases c10 : 12 ≤ (a1.size : Int)
          · rw [if_pos c10] at H
            have c10b0 := eq_true c10
            have c10b1 : decide (12 ≤ (a1.size : Int)) = true := decide_eq_true c10
            clear c10
            by_cases c11 : 2 + (a1.extract 0 12).size ≤ 9223372036854775807
            · rw [if_pos c11] at H
              have c11b0 := eq_true c11
              have c11b1 : decide (2 + (a1.extract 0 12).size ≤ 9223372036854775807) = true := decide_eq_true c11
              try have c11b2 : (9223372036854775807 < 2 + (a1.extract 0 12).size) = False := eq_false (Nat.not_lt.2 c11)
              obtain rfl := Option.some.inj H
              have p7 : 0 ≤ (0 : Int) := (by omega)
              have q7 : 0 < a1.size := (by have : (0 : Int) < (a1.size : Int) := of_decide_eq_true (by first | (with_reducible assumption) | assumption); omega)
              have hx7 : ∀ h : 0 < a1.size, ((a1[0]'h).toNat : Int) = bt a1 0 := bt_at a1 0
              clear p7
              have qi7 : (0 < (a1.size : Int)) = True := eq_true (of_decide_eq_true (by first | (with_reducible assumption) | assumption))
              replace q7 := eq_true q7
              go_enter Try.func17, Try.ntmps17
              go_wp2
              go_ret
              exact ⟨by first | rfl | (simp; done) | (simp [*]; done), by repeat (first | exact Drawn0.refl _ | apply Drawn0.step)⟩
            · rw [if_neg c11] at H
              exact absurd H (by simp)
          · rw [if_neg c10] at H
            exact absurd H (by simp)
        · rw [if_neg c9] at H
          exact absurd H (by simp)
      · rw [if_neg c8] at H
        have c8b0 : decide ((bt a1 0) < 53) = false := decide_eq_false c8
        clear c8
        by_cases c12 : 0 ≤ 12
        · rw [if_pos c12] at H
          have c12b0 := eq_true c12
          have c12b1 : decide (0 ≤ 12) = true := decide_eq_true c12
          clear c12
          by_cases c13 : 12 ≤ (a1.size : Int)
          · rw [if_pos c13] at H
            have c13b0 := eq_true c13
            have c13b1 : decide (12 ≤ (a1.size : Int)) = true := decide_eq_true c13
            clear c13
            by_cases c14 : 2 + (a1.extract 0 12).size ≤ 9223372036854775807
            · rw [if_pos c14] at H
              have c14b0 := eq_true c14
              have c14b1 : decide (2 + (a1.extract 0 12).size ≤ 9223372036854775807) = true := decide_eq_true c14
              try have c14b2 : (9223372036854775807 < 2 + (a1.extract 0 12).size) = False := eq_false (Nat.not_lt.2 c14)
              obtain rfl := Option.some.inj H
              have p7 : 0 ≤ (0 : Int) := (by omega)
              have q7 : 0 < a1.size := (by have : (0 : Int) < (a1.size : Int) := of_decide_eq_true (by first | (with_reducible assumption) | assumption); omega)
              have hx7 : ∀ h : 0 < a1.size, ((a1[0]'h).toNat : Int) = bt a1 0 := bt_at a1 0
              clear p7
              have qi7 : (0 < (a1.size : Int)) = True := eq_true (of_decide_eq_true (by first | (with_reducible assumption) | assumption))
              replace q7 := eq_true q7
              go_enter Try.func17, Try.ntmps17
              go_wp2
              go_ret
              exact ⟨by first | rfl | (simp; done) | (simp [*]; done), by repeat (first | exact Drawn0.refl _ | apply Drawn0.step)⟩
            · rw [if_neg c14] at H
              exact absurd H (by simp)
          · rw [if_neg c13] at H
            exact absurd H (by simp)
        · rw [if_neg c12] at H
          exact absurd H (by simp)
    · rw [if_neg c6] at H
      exact absurd H (by simp)

/-! ### gantletref13_Right: function 16 -/
def gantletref13_Right.f (k : Nat) (a0 : Int) (a1 : ByteArray) : Option (Bool) := if a0 = 23 then (if (a1.size : Int) = 13 then (if 12 < (a1.size : Int) then (if (bt a1 12) = 90 then ((gantletref13_Full.f 23 a1).bind fun t155 => ((gantletref13_Date.f k t155).bind fun t156 => (some t156))) else (some false)) else (none)) else (some false)) else (if a0 = 24 then (if (a1.size : Int) = 15 then (if 14 < (a1.size : Int) then (if (bt a1 14) = 90 then ((gantletref13_Full.f 24 a1).bind fun t157 => ((gantletref13_Date.f k t157).bind fun t158 => (if t158 = true then (if 0 ≤ 4 then (if 4 ≤ (a1.size : Int) then (some (!(Op.bytesLess ((a1.extract 0 4).toList) ([50, 48, 53, 48] : List UInt8)))) else (none)) else (none)) else (some false)))) else (some false)) else (none)) else (some false)) else (some false))
theorem gantletref13_Right.mono : ∀ a0 a1 k, LeO (gantletref13_Right.f k a0 a1) (gantletref13_Right.f (k + 1) a0 a1) := by
  intro a0 a1 k
  unfold gantletref13_Right.f
  repeat' first
      | (with_reducible exact gantletref13_Date.mono _ _)
      | (with_reducible exact LeO.refl _)
      | (with_reducible exact LeO.none _)
      | (with_reducible refine LeO.ite ?_ ?_)
      | (with_reducible refine LeO.bind ?_ (fun _ => ?_))
      | exact gantletref13_Date.mono _ _
      | exact LeO.none _
      | refine LeO.ite ?_ ?_
      | refine LeO.bind ?_ (fun _ => ?_)
set_option maxHeartbeats 8000000 in
set_option maxRecDepth 100000 in
theorem gantletref13_Right.calls (k : Nat) (a0 : Int) (a1 : ByteArray) (r : Bool) (w : World) (h : gantletref13_Right.f k a0 a1 = some r) :
    Calls Try.prog 16 #[.int .i64 a0, .string a1] w fun e w' => e = .returned (.bool r) ∧ Drawn0 w w' := by
  have H : (if a0 = 23 then (if (a1.size : Int) = 13 then (if 12 < (a1.size : Int) then (if (bt a1 12) = 90 then ((gantletref13_Full.f 23 a1).bind fun t155 => ((gantletref13_Date.f k t155).bind fun t156 => (some t156))) else (some false)) else (none)) else (some false)) else (if a0 = 24 then (if (a1.size : Int) = 15 then (if 14 < (a1.size : Int) then (if (bt a1 14) = 90 then ((gantletref13_Full.f 24 a1).bind fun t157 => ((gantletref13_Date.f k t157).bind fun t158 => (if t158 = true then (if 0 ≤ 4 then (if 4 ≤ (a1.size : Int) then (some (!(Op.bytesLess ((a1.extract 0 4).toList) ([50, 48, 53, 48] : List UInt8)))) else (none)) else (none)) else (some false)))) else (some false)) else (none)) else (some false)) else (some false))) = some r := h
  clear h
  by_cases c3 : a0 = 23
  · rw [if_pos c3] at H
    have c3b0 : (a0 == 23) = true := beq_iff_eq.mpr c3
    have c3b1 : (a0 != 23) = false := bne_eq_false_iff_eq.mpr c3
    clear c3
    by_cases c4 : (a1.size : Int) = 13
    · rw [if_pos c4] at H
      have c4b0 : ((a1.size : Int) == 13) = true := beq_iff_eq.mpr c4
      have c4b1 : ((a1.size : Int) != 13) = false := bne_eq_false_iff_eq.mpr c4
      clear c4
      by_cases c5 : 12 < (a1.size : Int)
      · rw [if_pos c5] at H
        have c5b0 : decide (12 < (a1.size : Int)) = true := decide_eq_true c5
        have c5b1 : decide (12 < a1.size) = true := decide_eq_true (by omega)
        clear c5
        by_cases c7 : (bt a1 12) = 90
        · rw [if_pos c7] at H
          have c7b0 : ((bt a1 12) == 90) = true := beq_iff_eq.mpr c7
          have c7b1 : ((bt a1 12) != 90) = false := bne_eq_false_iff_eq.mpr c7
          clear c7
          replace H := Option.bind_eq_some_iff.mp H
          obtain ⟨t155, A80, H⟩ := H
          replace H : ((gantletref13_Date.f k t155).bind fun t156 => (some t156)) = some r := H
          have A8 := Aside0.mk A80
          clear A80
          replace H := Option.bind_eq_some_iff.mp H
          obtain ⟨t156, A90, H⟩ := H
          replace H : (some t156) = some r := H
          have A9 := Aside0.mk A90
          clear A90
          obtain rfl := Option.some.inj H
          have p6 : 0 ≤ (12 : Int) := (by omega)
          have q6 : 12 < a1.size := (by have : (12 : Int) < (a1.size : Int) := of_decide_eq_true (by first | (with_reducible assumption) | assumption); omega)
          have hx6 : ∀ h : 12 < a1.size, ((a1[12]'h).toNat : Int) = bt a1 12 := bt_at a1 12
          clear p6
          have qi6 : (12 < (a1.size : Int)) = True := eq_true (of_decide_eq_true (by first | (with_reducible assumption) | assumption))
          replace q6 := eq_true q6
          go_enter Try.func16, Try.ntmps16
          go_wp2_with (first | (go_at_call 17; (with_reducible refine (gantletref13_Full.calls 23 a1 t155 _ A8.out).mono ?_); rintro e w' ⟨rfl, ⟨nd, rfl⟩⟩) | (go_at_call 15; (with_reducible refine (gantletref13_Date.calls k t155 t156 _ A9.out).mono ?_); rintro e w' ⟨rfl, ⟨nd, rfl⟩⟩))
          go_ret
          exact ⟨by first | rfl | (simp; done) | (simp [*]; done), by repeat (first | exact Drawn0.refl _ | apply Drawn0.step)⟩
        · rw [if_neg c7] at H
          have c7b0 : ((bt a1 12) == 90) = false := beq_eq_false_iff_ne.mpr c7
          have c7b1 : ((bt a1 12) != 90) = true := bne_iff_ne.mpr c7
          obtain rfl := Option.some.inj H
          have p6 : 0 ≤ (12 : Int) := (by omega)
          have q6 : 12 < a1.size := (by have : (12 : Int) < (a1.size : Int) := of_decide_eq_true (by first | (with_reducible assumption) | assumption); omega)
          have hx6 : ∀ h : 12 < a1.size, ((a1[12]'h).toNat : Int) = bt a1 12 := bt_at a1 12
          clear p6
          have qi6 : (12 < (a1.size : Int)) = True := eq_true (of_decide_eq_true (by first | (with_reducible assumption) | assumption))
          replace q6 := eq_true q6
          go_enter Try.func16, Try.ntmps16
          go_wp2
          go_ret
          exact ⟨by first | rfl | (simp; done) | (simp [*]; done), by repeat (first | exact Drawn0.refl _ | apply Drawn0.step)⟩
      · rw [if_neg c5] at H
        exact absurd H (by simp)
    · rw [if_neg c4] at H
      have c4b0 : ((a1.size : Int) == 13) = false := beq_eq_false_iff_ne.mpr c4
      have c4b1 : ((a1.size : Int) != 13) = true := bne_iff_ne.mpr c4
      obtain rfl := Option.some.inj H
      go_enter Try.func16, Try.ntmps16
      go_wp2
      go_ret
      exact ⟨by first | rfl | (simp; done) | (simp [*]; done), by repeat (first | exact Drawn0.refl _ | apply Drawn0.step)⟩
  · rw [if_neg c3] at H
    have c3b0 : (a0 == 23) = false := beq_eq_false_iff_ne.mpr c3
    have c3b1 : (a0 != 23) = true := bne_iff_ne.mpr c3
    by_cases c10 : a0 = 24
    · rw [if_pos c10] at H
      have c10b0 : (a0 == 24) = true := beq_iff_eq.mpr c10
      have c10b1 : (a0 != 24) = false := bne_eq_false_iff_eq.mpr c10
      clear c10
      by_cases c11 : (a1.size : Int) = 15
      · rw [if_pos c11] at H
        have c11b0 : ((a1.size : Int) == 15) = true := beq_iff_eq.mpr c11
        have c11b1 : ((a1.size : Int) != 15) = false := bne_eq_false_iff_eq.mpr c11
        clear c11
        by_cases c12 : 14 < (a1.size : Int)
        · rw [if_pos c12] at H
          have c12b0 : decide (14 < (a1.size : Int)) = true := decide_eq_true c12
          have c12b1 : decide (14 < a1.size) = true := decide_eq_true (by omega)
          clear c12
          by_cases c14 : (bt a1 14) = 90
          · rw [if_pos c14] at H
            have c14b0 : ((bt a1 14) == 90) = true := beq_iff_eq.mpr c14
            have c14b1 : ((bt a1 14) != 90) = false := bne_eq_false_iff_eq.mpr c14
            clear c14
            replace H := Option.bind_eq_some_iff.mp H
            obtain ⟨t157, A150, H⟩ := H
            replace H : ((gantletref13_Date.f k t157).bind fun t158 => (if t158 = true then (if 0 ≤ 4 then (if 4 ≤ (a1.size : Int) then (some (!(Op.bytesLess ((a1.extract 0 4).toList) ([50, 48, 53, 48] : List UInt8)))) else (none)) else (none)) else (some false))) = some r := H
            have A15 := Aside0.mk A150
            clear A150
            replace H := Option.bind_eq_some_iff.mp H
            obtain ⟨t158, A160, H⟩ := H
            replace H : (if t158 = true then (if 0 ≤ 4 then (if 4 ≤ (a1.size : Int) then (some (!(Op.bytesLess ((a1.extract 0 4).toList) ([50, 48, 53, 48] : List UInt8)))) else (none)) else (none)) else (some false)) = some r := H
            have A16 := Aside0.mk A160
            clear A160
            by_cases c17 : t158 = true
            · subst c17
              have H1 : (if 0 ≤ 4 then (if 4 ≤ (a1.size : Int) then (some (!(Op.bytesLess ((a1.extract 0 4).toList) ([50, 48, 53, 48] : List UInt8)))) else (none)) else (none)) = some r := by rw [if_pos rfl] at H; exact H
              clear H
              have H := H1
              clear H1
              by_cases c18 : 0 ≤ 4
              · rw [if_pos c18] at H
                have c18b0 := eq_true c18
                have c18b1 : decide (0 ≤ 4) = true := decide_eq_true c18
                clear c18
                by_cases c19 : 4 ≤ (a1.size : Int)
                · rw [if_pos c19] at H
                  have c19b0 := eq_true c19
                  have c19b1 : decide (4 ≤ (a1.size : Int)) = true := decide_eq_true c19
                  clear c19
                  obtain rfl := Option.some.inj H
                  have p13 : 0 ≤ (14 : Int) := (by omega)
                  have q13 : 14 < a1.size := (by have : (14 : Int) < (a1.size : Int) := of_decide_eq_true (by first | (with_reducible assumption) | assumption); omega)
                  have hx13 : ∀ h : 14 < a1.size, ((a1[14]'h).toNat : Int) = bt a1 14 := bt_at a1 14
                  clear p13
                  have qi13 : (14 < (a1.size : Int)) = True := eq_true (of_decide_eq_true (by first | (with_reducible assumption) | assumption))
                  replace q13 := eq_true q13
                  go_enter Try.func16, Try.ntmps16
                  go_wp2_with (first | (go_at_call 17; (with_reducible refine (gantletref13_Full.calls 24 a1 t157 _ A15.out).mono ?_); rintro e w' ⟨rfl, ⟨nd, rfl⟩⟩) | (go_at_call 15; (with_reducible refine (gantletref13_Date.calls k t157 true _ A16.out).mono ?_); rintro e w' ⟨rfl, ⟨nd, rfl⟩⟩))
                  go_ret
                  exact ⟨by first | rfl | (simp; done) | (simp [*]; done), by repeat (first | exact Drawn0.refl _ | apply Drawn0.step)⟩
                · rw [if_neg c19] at H
                  exact absurd H (by simp)
              · rw [if_neg c18] at H
                exact absurd H (by simp)
            · replace c17 := Bool.eq_false_iff.mpr c17
              subst c17
              have H1 : (some false) = some r := by rw [if_neg (show ¬ (false = true) by decide)] at H; exact H
              clear H
              have H := H1
              clear H1
              obtain rfl := Option.some.inj H
              have p13 : 0 ≤ (14 : Int) := (by omega)
              have q13 : 14 < a1.size := (by have : (14 : Int) < (a1.size : Int) := of_decide_eq_true (by first | (with_reducible assumption) | assumption); omega)
              have hx13 : ∀ h : 14 < a1.size, ((a1[14]'h).toNat : Int) = bt a1 14 := bt_at a1 14
              clear p13
              have qi13 : (14 < (a1.size : Int)) = True := eq_true (of_decide_eq_true (by first | (with_reducible assumption) | assumption))
              replace q13 := eq_true q13
              go_enter Try.func16, Try.ntmps16
              go_wp2_with (first | (go_at_call 17; (with_reducible refine (gantletref13_Full.calls 24 a1 t157 _ A15.out).mono ?_); rintro e w' ⟨rfl, ⟨nd, rfl⟩⟩) | (go_at_call 15; (with_reducible refine (gantletref13_Date.calls k t157 false _ A16.out).mono ?_); rintro e w' ⟨rfl, ⟨nd, rfl⟩⟩))
              go_ret
              exact ⟨by first | rfl | (simp; done) | (simp [*]; done), by repeat (first | exact Drawn0.refl _ | apply Drawn0.step)⟩
          · rw [if_neg c14] at H
            have c14b0 : ((bt a1 14) == 90) = false := beq_eq_false_iff_ne.mpr c14
            have c14b1 : ((bt a1 14) != 90) = true := bne_iff_ne.mpr c14
            obtain rfl := Option.some.inj H
            have p13 : 0 ≤ (14 : Int) := (by omega)
            have q13 : 14 < a1.size := (by have : (14 : Int) < (a1.size : Int) := of_decide_eq_true (by first | (with_reducible assumption) | assumption); omega)
            have hx13 : ∀ h : 14 < a1.size, ((a1[14]'h).toNat : Int) = bt a1 14 := bt_at a1 14
            clear p13
            have qi13 : (14 < (a1.size : Int)) = True := eq_true (of_decide_eq_true (by first | (with_reducible assumption) | assumption))
            replace q13 := eq_true q13
            go_enter Try.func16, Try.ntmps16
            go_wp2
            go_ret
            exact ⟨by first | rfl | (simp; done) | (simp [*]; done), by repeat (first | exact Drawn0.refl _ | apply Drawn0.step)⟩
        · rw [if_neg c12] at H
          exact absurd H (by simp)
      · rw [if_neg c11] at H
        have c11b0 : ((a1.size : Int) == 15) = false := beq_eq_false_iff_ne.mpr c11
        have c11b1 : ((a1.size : Int) != 15) = true := bne_iff_ne.mpr c11
        obtain rfl := Option.some.inj H
        go_enter Try.func16, Try.ntmps16
        go_wp2
        go_ret
        exact ⟨by first | rfl | (simp; done) | (simp [*]; done), by repeat (first | exact Drawn0.refl _ | apply Drawn0.step)⟩
    · rw [if_neg c10] at H
      have c10b0 : (a0 == 24) = false := beq_eq_false_iff_ne.mpr c10
      have c10b1 : (a0 != 24) = true := bne_iff_ne.mpr c10
      obtain rfl := Option.some.inj H
      go_enter Try.func16, Try.ntmps16
      go_wp2
      go_ret
      exact ⟨by first | rfl | (simp; done) | (simp [*]; done), by repeat (first | exact Drawn0.refl _ | apply Drawn0.step)⟩

/-! ### gantletref13_grow: function 26 -/
mutual
def gantletref13_grow.j0 : Nat → Int → Int → ByteArray → Bool → Option (Bool)
  | 0, _, _, _, _ => none
  | k + 1, x0, x1, x2, x36 => if x36 = true then (if x2.size + 2 ≤ 9223372036854775807 then ((gantletref13_grow.f k x0 x1 (x2 ++ (⟨#[48, 48]⟩ : ByteArray))).bind fun t161 => (some t161)) else (none)) else (gantletref13_grow.l0 k x0 x1 x2 0)
def gantletref13_grow.l0 : Nat → Int → Int → ByteArray → Int → Option (Bool)
  | 0, _, _, _, _ => none
  | k + 1, x0, x1, x2, x7 => if x7 < 10 then ((some (([(wrap64 (48 + x7)) % 256] : List Int) : List Int)).bind fun y162 => (if x2.size + (strOfNums y162).size ≤ 9223372036854775807 then ((gantletref13_grow.f k x0 x1 (x2 ++ (strOfNums y162))).bind fun t165 => (if t165 = true then (some true) else (gantletref13_grow.l0 k x0 x1 x2 (wrap64 (x7 + 1))))) else (none))) else (some false)
def gantletref13_grow.f : Nat → Int → Int → ByteArray → Option (Bool)
  | 0, _, _, _ => none
  | k + 1, a0, a1, a2 => if (a2.size : Int) ≥ a1 then ((gantletref13_Right.f k a0 a2).bind fun t159 => (some t159)) else (if (a2.size : Int) = (wrap64 (a1 - 1)) then (if a2.size + 1 ≤ 9223372036854775807 then ((gantletref13_Right.f k a0 (a2 ++ (⟨#[90]⟩ : ByteArray))).bind fun t160 => (some t160)) else (none)) else (if (a2.size : Int) ≥ (wrap64 (a1 - 7)) then (gantletref13_grow.j0 k a0 a1 a2 ((Int.tmod (wrap64 (a1 - (a2.size : Int))) 2) == 1)) else (gantletref13_grow.j0 k a0 a1 a2 false)))
end
theorem gantletref13_grow.mono_l : ∀ k, (∀ y0 y1 y2, LeO (gantletref13_grow.f k y0 y1 y2) (gantletref13_grow.f (k + 1) y0 y1 y2)) ∧ (∀ y0 y1 y2 y3, LeO (gantletref13_grow.j0 k y0 y1 y2 y3) (gantletref13_grow.j0 (k + 1) y0 y1 y2 y3)) ∧ (∀ y0 y1 y2 y3, LeO (gantletref13_grow.l0 k y0 y1 y2 y3) (gantletref13_grow.l0 (k + 1) y0 y1 y2 y3))
  | 0 => ⟨fun _ _ _ r h => by simp [gantletref13_grow.f] at h, fun _ _ _ _ r h => by simp [gantletref13_grow.j0] at h, fun _ _ _ _ r h => by simp [gantletref13_grow.l0] at h⟩
  | k + 1 => by
    obtain ⟨ih0, ih1, ih2⟩ := gantletref13_grow.mono_l k
    refine ⟨?_, ?_, ?_⟩
    · intro y0 y1 y2
      unfold gantletref13_grow.f
      repeat' first
      | (with_reducible exact ih0 _ _ _)
      | (with_reducible exact ih1 _ _ _ _)
      | (with_reducible exact ih2 _ _ _ _)
      | (with_reducible exact gantletref13_Right.mono _ _ _)
      | (with_reducible exact LeO.refl _)
      | (with_reducible exact LeO.none _)
      | (with_reducible refine LeO.ite ?_ ?_)
      | (with_reducible refine LeO.bind ?_ (fun _ => ?_))
      | exact ih0 _ _ _
      | exact ih1 _ _ _ _
      | exact ih2 _ _ _ _
      | exact gantletref13_Right.mono _ _ _
      | exact LeO.none _
      | refine LeO.ite ?_ ?_
      | refine LeO.bind ?_ (fun _ => ?_)
    · intro y0 y1 y2 y3
      unfold gantletref13_grow.j0
      repeat' first
      | (with_reducible exact ih0 _ _ _)
      | (with_reducible exact ih1 _ _ _ _)
      | (with_reducible exact ih2 _ _ _ _)
      | (with_reducible exact gantletref13_Right.mono _ _ _)
      | (with_reducible exact LeO.refl _)
      | (with_reducible exact LeO.none _)
      | (with_reducible refine LeO.ite ?_ ?_)
      | (with_reducible refine LeO.bind ?_ (fun _ => ?_))
      | exact ih0 _ _ _
      | exact ih1 _ _ _ _
      | exact ih2 _ _ _ _
      | exact gantletref13_Right.mono _ _ _
      | exact LeO.none _
      | refine LeO.ite ?_ ?_
      | refine LeO.bind ?_ (fun _ => ?_)
    · intro y0 y1 y2 y3
      unfold gantletref13_grow.l0
      repeat' first
      | (with_reducible exact ih0 _ _ _)
      | (with_reducible exact ih1 _ _ _ _)
      | (with_reducible exact ih2 _ _ _ _)
      | (with_reducible exact gantletref13_Right.mono _ _ _)
      | (with_reducible exact LeO.refl _)
      | (with_reducible exact LeO.none _)
      | (with_reducible refine LeO.ite ?_ ?_)
      | (with_reducible refine LeO.bind ?_ (fun _ => ?_))
      | exact ih0 _ _ _
      | exact ih1 _ _ _ _
      | exact ih2 _ _ _ _
      | exact gantletref13_Right.mono _ _ _
      | exact LeO.none _
      | refine LeO.ite ?_ ?_
      | refine LeO.bind ?_ (fun _ => ?_)
theorem gantletref13_grow.mono : ∀ a0 a1 a2 k, LeO (gantletref13_grow.f k a0 a1 a2) (gantletref13_grow.f (k + 1) a0 a1 a2) := by
  intro a0 a1 a2 k
  obtain ⟨ih0, ih1, ih2⟩ := gantletref13_grow.mono_l k
  exact ih0 a0 a1 a2
set_option maxHeartbeats 8000000 in
set_option maxRecDepth 100000 in
theorem gantletref13_grow.calls (k : Nat) : ∀ (a0 : Int) (a1 : Int) (a2 : ByteArray) (r : Bool) (w : World) (h : gantletref13_grow.f k a0 a1 a2 = some r),
    Calls Try.prog 26 #[.int .i64 a0, .int .i64 a1, .string a2] w fun e w' => e = .returned (.bool r) ∧ Below w.heap.size w w' := by
  induction k using Nat.strongRecOn with
  | _ k ih =>
  intro a0 a1 a2 r w h
  cases k with
  | zero => exact absurd h (by simp [gantletref13_grow.f])
  | succ k =>
  simp only [gantletref13_grow.f] at h
  have HB := Aside0.mk (Below.refl w.heap.size w)
  have H : (if (a2.size : Int) ≥ a1 then ((gantletref13_Right.f k a0 a2).bind fun t159 => (some t159)) else (if (a2.size : Int) = (wrap64 (a1 - 1)) then (if a2.size + 1 ≤ 9223372036854775807 then ((gantletref13_Right.f k a0 (a2 ++ (⟨#[90]⟩ : ByteArray))).bind fun t160 => (some t160)) else (none)) else (if (a2.size : Int) ≥ (wrap64 (a1 - 7)) then (gantletref13_grow.j0 k a0 a1 a2 ((Int.tmod (wrap64 (a1 - (a2.size : Int))) 2) == 1)) else (gantletref13_grow.j0 k a0 a1 a2 false)))) = some r := h
  clear h
  by_cases c4 : (a2.size : Int) ≥ a1
  · rw [if_pos c4] at H
    have c4b0 : decide (a1 ≤ (a2.size : Int)) = true := decide_eq_true c4
    clear c4
    replace H := Option.bind_eq_some_iff.mp H
    obtain ⟨t159, A50, H⟩ := H
    replace H : (some t159) = some r := H
    have A5 := Aside0.mk A50
    clear A50
    obtain rfl := Option.some.inj H
    go_enter Try.func26, Try.ntmps26
    go_wp2_with (first | ((with_reducible refine gate_callee (f := 16) rfl ?_); refine goesL_ (some 14) rfl rfl Try.func16 (by kernel_rfl) rfl #[.int .i64 a0, .string a2] rfl (by (try simp only [List.map_toArray, List.map_cons, List.map_nil]); first | done | rfl | (simp only [List.length_drop, List.length_take]; rfl)) ?_; (with_reducible refine (gantletref13_Right.calls k a0 a2 t159 _ A5.out).mono ?_); rintro e w' ⟨rfl, ⟨nd, rfl⟩⟩; refine ⟨_, rfl, ?_⟩))
    go_ret
    exact ⟨by first | rfl | (simp [errW_none, errW_some] <;> rfl) | (simp [*, errW_none, errW_some] <;> rfl), by repeat (first | (with_reducible first | exact HB.out | apply below_alloc | apply pw_below_drewN | apply below_drew1) | exact HB.out)⟩
  · rw [if_neg c4] at H
    have c4b0 : decide (a1 ≤ (a2.size : Int)) = false := decide_eq_false c4
    clear c4
    by_cases c6 : (a2.size : Int) = (wrap64 (a1 - 1))
    · rw [if_pos c6] at H
      have c6b0 : ((a2.size : Int) == (wrap64 (a1 - 1))) = true := beq_iff_eq.mpr c6
      have c6b1 : ((a2.size : Int) != (wrap64 (a1 - 1))) = false := bne_eq_false_iff_eq.mpr c6
      clear c6
      by_cases c7 : a2.size + 1 ≤ 9223372036854775807
      · rw [if_pos c7] at H
        have c7b0 := eq_true c7
        have c7b1 : decide (a2.size + 1 ≤ 9223372036854775807) = true := decide_eq_true c7
        try have c7b2 : (9223372036854775807 < a2.size + 1) = False := eq_false (Nat.not_lt.2 c7)
        replace H := Option.bind_eq_some_iff.mp H
        obtain ⟨t160, A80, H⟩ := H
        replace H : (some t160) = some r := H
        have A8 := Aside0.mk A80
        clear A80
        obtain rfl := Option.some.inj H
        go_enter Try.func26, Try.ntmps26
        go_wp2_with (first | ((with_reducible refine gate_callee (f := 16) rfl ?_); refine goesL_ (some 23) rfl rfl Try.func16 (by kernel_rfl) rfl #[.int .i64 a0, .string (a2 ++ (⟨#[90]⟩ : ByteArray))] rfl (by (try simp only [List.map_toArray, List.map_cons, List.map_nil]); first | done | rfl | (simp only [List.length_drop, List.length_take]; rfl)) ?_; (with_reducible refine (gantletref13_Right.calls k a0 (a2 ++ (⟨#[90]⟩ : ByteArray)) t160 _ A8.out).mono ?_); rintro e w' ⟨rfl, ⟨nd, rfl⟩⟩; refine ⟨_, rfl, ?_⟩))
        go_ret
        exact ⟨by first | rfl | (simp [errW_none, errW_some] <;> rfl) | (simp [*, errW_none, errW_some] <;> rfl), by repeat (first | (with_reducible first | exact HB.out | apply below_alloc | apply pw_below_drewN | apply below_drew1) | exact HB.out)⟩
      · rw [if_neg c7] at H
        exact absurd H (by simp)
    · rw [if_neg c6] at H
      have c6b0 : ((a2.size : Int) == (wrap64 (a1 - 1))) = false := beq_eq_false_iff_ne.mpr c6
      have c6b1 : ((a2.size : Int) != (wrap64 (a1 - 1))) = true := bne_iff_ne.mpr c6
      have HC9 := Aside0.mk H
      clear H
      go_enter Try.func26, Try.ntmps26
      go_upto_region 5 with (fail)
      go_cut [36] (fun v36 wc => ∃ (kq : Nat) (x36_8 : Bool), v36 = .bool x36_8 ∧ Aside0 (gantletref13_grow.j0 kq a0 a1 a2 x36_8 = some r) ∧ Aside0 (kq ≤ k) ∧ Aside0 (Below w.heap.size w wc))
      case first =>
        have H := HC9.out
        clear HC9
        by_cases c10 : (a2.size : Int) ≥ (wrap64 (a1 - 7))
        · rw [if_pos c10] at H
          have c10b0 : decide ((wrap64 (a1 - 7)) ≤ (a2.size : Int)) = true := decide_eq_true c10
          clear c10
          (first | rw [c10b0] | (simp only [i64_w, i32_w]; rw [c10b0]) | skip)
          have H' := Aside0.mk H
          clear H
          go_wp2
          go_meet
          case rel => exact ⟨_, (((Int.tmod (wrap64 (a1 - (a2.size : Int))) 2) == 1)), (by first | rfl | (simp; done) | (simp [*]; done)), H', ⟨by first | omega | exact Nat.le_refl _⟩, ⟨by repeat (first | (with_reducible first | exact HB.out | apply below_alloc | apply pw_below_drewN | apply below_drew1) | exact HB.out)⟩⟩
        · rw [if_neg c10] at H
          have c10b0 : decide ((wrap64 (a1 - 7)) ≤ (a2.size : Int)) = false := decide_eq_false c10
          clear c10
          (first | rw [c10b0] | (simp only [i64_w, i32_w]; rw [c10b0]) | skip)
          have H' := Aside0.mk H
          clear H
          go_wp2
          go_meet
          case rel => exact ⟨_, (false), (by first | rfl | (simp; done) | (simp [*]; done)), H', ⟨by first | omega | exact Nat.le_refl _⟩, ⟨by repeat (first | (with_reducible first | exact HB.out | apply below_alloc | apply pw_below_drewN | apply below_drew1) | exact HB.out)⟩⟩
      case rest =>
        clear HC9
        try clear c1
        try clear c2
        try clear p2
        try clear c4
        try clear c4b0
        try clear c6
        try clear c6b0
        try clear c6b1
        try clear p6
        try clear c7
        try clear c7b0
        try clear c7b1
        try clear c7b2
        try clear c10
        try clear c10b0
        obtain ⟨kq, x36_8, rfl, HA, HJ8, HB⟩ := hcut
        cases kq with
        | zero => exact absurd HA.out (by simp [gantletref13_grow.j0])
        | succ kj8 =>
          have H := HA.out
          clear HA
          simp only [gantletref13_grow.j0] at H
          by_cases c11 : x36_8 = true
          · subst c11
            have H1 : (if a2.size + 2 ≤ 9223372036854775807 then ((gantletref13_grow.f kj8 a0 a1 (a2 ++ (⟨#[48, 48]⟩ : ByteArray))).bind fun t161 => (some t161)) else (none)) = some r := by rw [if_pos rfl] at H; exact H
            clear H
            have H := H1
            clear H1
            by_cases c12 : a2.size + 2 ≤ 9223372036854775807
            · rw [if_pos c12] at H
              have c12b0 := eq_true c12
              have c12b1 : decide (a2.size + 2 ≤ 9223372036854775807) = true := decide_eq_true c12
              try have c12b2 : (9223372036854775807 < a2.size + 2) = False := eq_false (Nat.not_lt.2 c12)
              replace H := Option.bind_eq_some_iff.mp H
              obtain ⟨t161, A130, H⟩ := H
              replace H : (some t161) = some r := H
              have A13 := Aside0.mk A130
              clear A130
              obtain rfl := Option.some.inj H
              go_wp2_with (first | ((with_reducible refine gate_callee (f := 26) rfl ?_); refine goesL_ (some 41) rfl rfl Try.func26 (by kernel_rfl) rfl #[.int .i64 a0, .int .i64 a1, .string (a2 ++ (⟨#[48, 48]⟩ : ByteArray))] rfl (by (try simp only [List.map_toArray, List.map_cons, List.map_nil]); first | done | rfl | (simp only [List.length_drop, List.length_take]; rfl)) ?_; (with_reducible refine (ih kj8 (by have := HJ8.out; omega) a0 a1 (a2 ++ (⟨#[48, 48]⟩ : ByteArray)) t161 _ A13.out).mono ?_); rintro e w14 ⟨rfl, hb⟩; refine ⟨_, rfl, ?_⟩; have n0_ := Aside0.mk (below_step (by repeat (first | (with_reducible first | exact HB.out | apply below_alloc | apply pw_below_drewN | apply below_drew1) | exact HB.out)) hb); clear HB; have HB := n0_; clear n0_; (try clear hb); (try clear hb2); (try clear hk); (try clear hi)))
              go_ret
              exact ⟨by first | rfl | (simp [errW_none, errW_some] <;> rfl) | (simp [*, errW_none, errW_some] <;> rfl), by repeat (first | (with_reducible first | exact HB.out | apply below_alloc | apply pw_below_drewN | apply below_drew1) | exact HB.out)⟩
            · rw [if_neg c12] at H
              exact absurd H (by simp)
          · replace c11 := Bool.eq_false_iff.mpr c11
            subst c11
            have H1 : (gantletref13_grow.l0 kj8 a0 a1 a2 0) = some r := by rw [if_neg (show ¬ (false = true) by decide)] at H; exact H
            clear H
            have H := H1
            clear H1
            have H' := Aside0.mk H
            clear H
            go_wp2
            go_loopg [7] kj8 (fun kq v7 w' => ∃ (x7_2 : Int), v7 = .int .i64 x7_2 ∧ Aside0 (gantletref13_grow.l0 kq a0 a1 a2 x7_2 = some r) ∧ Aside0 (kq ≤ kj8) ∧ Aside0 (Below w.heap.size w w'))
            case atStart => exact ⟨(0), (by first | rfl | (simp; done) | (simp [*]; done)), H', ⟨Nat.le_refl _⟩, ⟨by repeat (first | (with_reducible first | exact HB.out | apply below_alloc | apply pw_below_drewN | apply below_drew1) | exact HB.out)⟩⟩
            case round =>
              clear H'
              try clear c1
              try clear c2
              try clear p2
              try clear c4
              try clear c4b0
              try clear c6
              try clear c6b0
              try clear c6b1
              try clear p6
              try clear c7
              try clear c7b0
              try clear c7b1
              try clear c7b2
              try clear c10
              try clear c10b0
              try clear c11
              try clear c12
              try clear c12b0
              try clear c12b1
              try clear c12b2
              try clear p2
              try clear p6
              obtain ⟨x7_2, rfl, HA, HK2, HB⟩ := hrel
              cases gk with
              | zero => exact absurd HA.out (by simp [gantletref13_grow.l0])
              | succ k2 =>
                have H := HA.out
                clear HA
                simp only [gantletref13_grow.l0] at H
                by_cases c15 : x7_2 < 10
                · rw [if_pos c15] at H
                  have c15b0 : decide (x7_2 < 10) = true := decide_eq_true c15
                  clear c15
                  obtain ⟨y162, hy162⟩ : ∃ y_ : List Int, y_ = (([(wrap64 (48 + x7_2)) % 256] : List Int)) := ⟨_, rfl⟩
                  replace H : (if a2.size + (strOfNums y162).size ≤ 9223372036854775807 then ((gantletref13_grow.f k2 a0 a1 (a2 ++ (strOfNums y162))).bind fun t165 => (if t165 = true then (some true) else (gantletref13_grow.l0 k2 a0 a1 a2 (wrap64 (x7_2 + 1))))) else (none)) = some r := by first | (rw [hy162]; with_reducible exact H) | (have H2_ := (Option.bind_some _ _).symm.trans H; rw [hy162]; with_reducible exact H2_) | (have H2_ := (Option.bind_some _ _).symm.trans H; with_reducible exact H2_) | with_reducible exact H | (rw [hy162]; exact H) | exact H
                  have Ny162 := Aside0.mk hy162
                  clear hy162
                  by_cases c16 : a2.size + (strOfNums y162).size ≤ 9223372036854775807
                  · rw [if_pos c16] at H
                    have c16b0 := eq_true c16
                    have c16b1 : decide (a2.size + (strOfNums y162).size ≤ 9223372036854775807) = true := decide_eq_true c16
                    try have c16b2 : (9223372036854775807 < a2.size + (strOfNums y162).size) = False := eq_false (Nat.not_lt.2 c16)
                    replace H := Option.bind_eq_some_iff.mp H
                    obtain ⟨t165, A170, H⟩ := H
                    replace H : (if t165 = true then (some true) else (gantletref13_grow.l0 k2 a0 a1 a2 (wrap64 (x7_2 + 1)))) = some r := H
                    have A17 := Aside0.mk A170
                    clear A170
                    by_cases c18 : t165 = true
                    · subst c18
                      have H1 : (some true) = some r := by rw [if_pos rfl] at H; exact H
                      clear H
                      have H := H1
                      clear H1
                      obtain rfl := Option.some.inj H
                      go_wp2_with (first | ((with_reducible refine gate_dst (N := 52) rfl ?_); (try (refine gate_guard (by rfl) ?_; dsimp only)); refine Kd.R_lit (Kd.int .u8) _ 5 ?hg (N := 52) ?hd (xs := ([(wrap64 (48 + x7_2)) % 256] : List Int)) (inner := [.int .u8 ((wrap64 (48 + x7_2)) % 256)]) (ok := fun _ => True) (okp := fun _ => True) ?hr ?hp (fun _ hk => hk) trivial (Below.refl _ _) (Nat.le_refl _) (by simp) ?_; (case hd => rfl); (case hg => rfl); (case hr => first | (go_simp; done) | (go_simp; rfl)); (case hp => exact (Reps.one (show Kd.M (Kd.int .u8) _ _ _ ((wrap64 (48 + x7_2)) % 256) [.int .u8 ((wrap64 (48 + x7_2)) % 256)] from rfl) (Reps.none _ _))); intro v163 w19 ho20 hb hg_ hnew_; clear hg_ hnew_; (first | rw [← Ny162.out] at ho20 | (simp only [Int.reduceToNat] at ho20; rw [← Ny162.out] at ho20)); have n0_ := Aside0.mk (Kd.R_lower ho20 (below_size (by repeat (first | (with_reducible first | exact HB.out | apply below_alloc | apply pw_below_drewN | apply below_drew1) | exact HB.out)))); have n1_ := Aside0.mk (below_step (by repeat (first | (with_reducible first | exact HB.out | apply below_alloc | apply pw_below_drewN | apply below_drew1) | exact HB.out)) hb); clear HB; have HO164 := n0_; have HB := n1_; clear n0_ n1_; clear hb ho20; have hcv21 := own_string (P := Try.prog) Try.underlying40 Try.underlying5 Try.underlying9 (Kd.own_of_R HO164.out)) | ((with_reducible refine gate_callee (f := 26) rfl ?_); refine goesL_ (some 55) rfl rfl Try.func26 (by kernel_rfl) rfl #[.int .i64 a0, .int .i64 a1, .string (a2 ++ (strOfNums y162))] rfl (by (try simp only [List.map_toArray, List.map_cons, List.map_nil]); first | done | rfl | (simp only [List.length_drop, List.length_take]; rfl)) ?_; (with_reducible refine (ih k2 (by have := HJ8.out; have := HK2.out; omega) a0 a1 (a2 ++ (strOfNums y162)) true _ A17.out).mono ?_); rintro e w22 ⟨rfl, hb⟩; refine ⟨_, rfl, ?_⟩; have n0_ := Aside0.mk (Kd.R_below (by (with_reducible repeat (first | apply Kd.R_alloc | apply Kd.R_drewN | apply Kd.R_drew)); exact HO164.out) hb); have n1_ := Aside0.mk (below_step (by repeat (first | (with_reducible first | exact HB.out | apply below_alloc | apply pw_below_drewN | apply below_drew1) | exact HB.out)) hb); clear HO164; clear HB; have HO164 := n0_; have HB := n1_; clear n0_ n1_; (try clear hb); (try clear hb2); (try clear hk); (try clear hi)))
                      go_ret
                      exact ⟨by first | rfl | (simp [errW_none, errW_some] <;> rfl) | (simp [*, errW_none, errW_some] <;> rfl), by repeat (first | (with_reducible first | exact HB.out | apply below_alloc | apply pw_below_drewN | apply below_drew1) | exact HB.out)⟩
                    · replace c18 := Bool.eq_false_iff.mpr c18
                      subst c18
                      have H1 : (gantletref13_grow.l0 k2 a0 a1 a2 (wrap64 (x7_2 + 1))) = some r := by rw [if_neg (show ¬ (false = true) by decide)] at H; exact H
                      clear H
                      have H := H1
                      clear H1
                      have H' := Aside0.mk H
                      clear H
                      go_wp2_with (first | ((with_reducible refine gate_dst (N := 52) rfl ?_); (try (refine gate_guard (by rfl) ?_; dsimp only)); refine Kd.R_lit (Kd.int .u8) _ 5 ?hg (N := 52) ?hd (xs := ([(wrap64 (48 + x7_2)) % 256] : List Int)) (inner := [.int .u8 ((wrap64 (48 + x7_2)) % 256)]) (ok := fun _ => True) (okp := fun _ => True) ?hr ?hp (fun _ hk => hk) trivial (Below.refl _ _) (Nat.le_refl _) (by simp) ?_; (case hd => rfl); (case hg => rfl); (case hr => first | (go_simp; done) | (go_simp; rfl)); (case hp => exact (Reps.one (show Kd.M (Kd.int .u8) _ _ _ ((wrap64 (48 + x7_2)) % 256) [.int .u8 ((wrap64 (48 + x7_2)) % 256)] from rfl) (Reps.none _ _))); intro v163 w23 ho24 hb hg_ hnew_; clear hg_ hnew_; (first | rw [← Ny162.out] at ho24 | (simp only [Int.reduceToNat] at ho24; rw [← Ny162.out] at ho24)); have n0_ := Aside0.mk (Kd.R_lower ho24 (below_size (by repeat (first | (with_reducible first | exact HB.out | apply below_alloc | apply pw_below_drewN | apply below_drew1) | exact HB.out)))); have n1_ := Aside0.mk (below_step (by repeat (first | (with_reducible first | exact HB.out | apply below_alloc | apply pw_below_drewN | apply below_drew1) | exact HB.out)) hb); clear HB; have HO164 := n0_; have HB := n1_; clear n0_ n1_; clear hb ho24; have hcv25 := own_string (P := Try.prog) Try.underlying40 Try.underlying5 Try.underlying9 (Kd.own_of_R HO164.out)) | ((with_reducible refine gate_callee (f := 26) rfl ?_); refine goesL_ (some 55) rfl rfl Try.func26 (by kernel_rfl) rfl #[.int .i64 a0, .int .i64 a1, .string (a2 ++ (strOfNums y162))] rfl (by (try simp only [List.map_toArray, List.map_cons, List.map_nil]); first | done | rfl | (simp only [List.length_drop, List.length_take]; rfl)) ?_; (with_reducible refine (ih k2 (by have := HJ8.out; have := HK2.out; omega) a0 a1 (a2 ++ (strOfNums y162)) false _ A17.out).mono ?_); rintro e w26 ⟨rfl, hb⟩; refine ⟨_, rfl, ?_⟩; have n0_ := Aside0.mk (Kd.R_below (by (with_reducible repeat (first | apply Kd.R_alloc | apply Kd.R_drewN | apply Kd.R_drew)); exact HO164.out) hb); have n1_ := Aside0.mk (below_step (by repeat (first | (with_reducible first | exact HB.out | apply below_alloc | apply pw_below_drewN | apply below_drew1) | exact HB.out)) hb); clear HO164; clear HB; have HO164 := n0_; have HB := n1_; clear n0_ n1_; (try clear hb); (try clear hb2); (try clear hk); (try clear hi)))
                      go_roundg k2
                      case measure => have := HJ8.out; have := HK2.out; omega
                      case rel => exact ⟨(wrap64 (x7_2 + 1)), (by first | rfl | (simp; done) | (simp [*]; done)), H', ⟨by have := HJ8.out; have := HK2.out; omega⟩, ⟨by repeat (first | (with_reducible first | exact HB.out | apply below_alloc | apply pw_below_drewN | apply below_drew1) | exact HB.out)⟩⟩
                  · rw [if_neg c16] at H
                    exact absurd H (by simp)
                · rw [if_neg c15] at H
                  have c15b0 : decide (x7_2 < 10) = false := decide_eq_false c15
                  clear c15
                  obtain rfl := Option.some.inj H
                  go_wp2
                  go_ret
                  exact ⟨by first | rfl | (simp [errW_none, errW_some] <;> rfl) | (simp [*, errW_none, errW_some] <;> rfl), by repeat (first | (with_reducible first | exact HB.out | apply below_alloc | apply pw_below_drewN | apply below_drew1) | exact HB.out)⟩

/-! ### gantletref13_Can: function 20 -/
def gantletref13_Can.j0 : Nat → Int → Int → ByteArray → Bool → Option (Bool)
  | 0, _, _, _, _ => none
  | k + 1, x0, x1, x2, x28 => if x28 = true then (some false) else (if (x2.size : Int) ≤ (wrap64 (x1 - 11)) then ((gantletref13_plain.f k x2).bind fun t166 => (if t166 = true then (if x0 = 23 then (some true) else ((gantletref13_year.f k x2).bind fun t167 => (some t167))) else (some false))) else ((gantletref13_grow.f k x0 x1 x2).bind fun t168 => (some t168)))
def gantletref13_Can.f (k : Nat) (a0 : Int) (a1 : Int) (a2 : ByteArray) : Option (Bool) := if a0 = 23 then (if a1 = 13 then (if a0 = 24 then (if a1 = 15 then (gantletref13_Can.j0 k a0 a1 a2 false) else (gantletref13_Can.j0 k a0 a1 a2 true)) else (gantletref13_Can.j0 k a0 a1 a2 false)) else (gantletref13_Can.j0 k a0 a1 a2 true)) else (if a0 = 24 then (if a1 = 15 then (gantletref13_Can.j0 k a0 a1 a2 false) else (gantletref13_Can.j0 k a0 a1 a2 true)) else (gantletref13_Can.j0 k a0 a1 a2 true))
theorem gantletref13_Can.mono_l : ∀ k, (∀ y0 y1 y2 y3, LeO (gantletref13_Can.j0 k y0 y1 y2 y3) (gantletref13_Can.j0 (k + 1) y0 y1 y2 y3))
  | 0 => fun _ _ _ _ r h => by simp [gantletref13_Can.j0] at h
  | k + 1 => by
    have ih0 := gantletref13_Can.mono_l k
    · intro y0 y1 y2 y3
      unfold gantletref13_Can.j0
      repeat' first
      | (with_reducible exact ih0 _ _ _ _)
      | (with_reducible exact gantletref13_grow.mono _ _ _ _)
      | (with_reducible exact gantletref13_plain.mono _ _)
      | (with_reducible exact gantletref13_year.mono _ _)
      | (with_reducible exact LeO.refl _)
      | (with_reducible exact LeO.none _)
      | (with_reducible refine LeO.ite ?_ ?_)
      | (with_reducible refine LeO.bind ?_ (fun _ => ?_))
      | exact ih0 _ _ _ _
      | exact gantletref13_grow.mono _ _ _ _
      | exact gantletref13_plain.mono _ _
      | exact gantletref13_year.mono _ _
      | exact LeO.none _
      | refine LeO.ite ?_ ?_
      | refine LeO.bind ?_ (fun _ => ?_)
theorem gantletref13_Can.mono : ∀ a0 a1 a2 k, LeO (gantletref13_Can.f k a0 a1 a2) (gantletref13_Can.f (k + 1) a0 a1 a2) := by
  intro a0 a1 a2 k
  have ih0 := gantletref13_Can.mono_l k
  unfold gantletref13_Can.f
  repeat' first
      | (with_reducible exact ih0 _ _ _ _)
      | (with_reducible exact gantletref13_grow.mono _ _ _ _)
      | (with_reducible exact gantletref13_plain.mono _ _)
      | (with_reducible exact gantletref13_year.mono _ _)
      | (with_reducible exact LeO.refl _)
      | (with_reducible exact LeO.none _)
      | (with_reducible refine LeO.ite ?_ ?_)
      | (with_reducible refine LeO.bind ?_ (fun _ => ?_))
      | exact ih0 _ _ _ _
      | exact gantletref13_grow.mono _ _ _ _
      | exact gantletref13_plain.mono _ _
      | exact gantletref13_year.mono _ _
      | exact LeO.none _
      | refine LeO.ite ?_ ?_
      | refine LeO.bind ?_ (fun _ => ?_)
set_option maxHeartbeats 8000000 in
set_option maxRecDepth 100000 in
theorem gantletref13_Can.calls (k : Nat) (a0 : Int) (a1 : Int) (a2 : ByteArray) (r : Bool) (w : World) (h : gantletref13_Can.f k a0 a1 a2 = some r) :
    Calls Try.prog 20 #[.int .i64 a0, .int .i64 a1, .string a2] w fun e w' => e = .returned (.bool r) ∧ Below w.heap.size w w' := by
  have HB := Aside0.mk (Below.refl w.heap.size w)
  have H : (if a0 = 23 then (if a1 = 13 then (if a0 = 24 then (if a1 = 15 then (gantletref13_Can.j0 k a0 a1 a2 false) else (gantletref13_Can.j0 k a0 a1 a2 true)) else (gantletref13_Can.j0 k a0 a1 a2 false)) else (gantletref13_Can.j0 k a0 a1 a2 true)) else (if a0 = 24 then (if a1 = 15 then (gantletref13_Can.j0 k a0 a1 a2 false) else (gantletref13_Can.j0 k a0 a1 a2 true)) else (gantletref13_Can.j0 k a0 a1 a2 true))) = some r := h
  clear h
  have HC4 := Aside0.mk H
  clear H
  go_enter Try.func20, Try.ntmps20
  go_upto_region 1 with (fail)
  go_cut [28] (fun v28 wc => ∃ (kq : Nat) (x28_3 : Bool), v28 = .bool x28_3 ∧ Aside0 (gantletref13_Can.j0 kq a0 a1 a2 x28_3 = some r) ∧ Aside0 (kq ≤ k) ∧ Aside0 (Below w.heap.size w wc))
  case first =>
    have H := HC4.out
    clear HC4
    by_cases c5 : a0 = 23
    · rw [if_pos c5] at H
      have c5b0 : (a0 == 23) = true := beq_iff_eq.mpr c5
      have c5b1 : (a0 != 23) = false := bne_eq_false_iff_eq.mpr c5
      clear c5
      (first | rw [c5b0] | (simp only [i64_w, i32_w]; rw [c5b0]) | skip)
      by_cases c6 : a1 = 13
      · rw [if_pos c6] at H
        have c6b0 : (a1 == 13) = true := beq_iff_eq.mpr c6
        have c6b1 : (a1 != 13) = false := bne_eq_false_iff_eq.mpr c6
        clear c6
        by_cases c7 : a0 = 24
        · rw [if_pos c7] at H
          have c7b0 : (a0 == 24) = true := beq_iff_eq.mpr c7
          have c7b1 : (a0 != 24) = false := bne_eq_false_iff_eq.mpr c7
          clear c7
          by_cases c8 : a1 = 15
          · rw [if_pos c8] at H
            have c8b0 : (a1 == 15) = true := beq_iff_eq.mpr c8
            have c8b1 : (a1 != 15) = false := bne_eq_false_iff_eq.mpr c8
            clear c8
            have H' := Aside0.mk H
            clear H
            go_wp2
            go_meet
            case rel => exact ⟨_, (false), (by first | rfl | (simp; done) | (simp [*]; done)), H', ⟨by first | omega | exact Nat.le_refl _⟩, ⟨by repeat (first | (with_reducible first | exact HB.out | apply below_alloc | apply pw_below_drewN | apply below_drew1) | exact HB.out)⟩⟩
          · rw [if_neg c8] at H
            have c8b0 : (a1 == 15) = false := beq_eq_false_iff_ne.mpr c8
            have c8b1 : (a1 != 15) = true := bne_iff_ne.mpr c8
            have H' := Aside0.mk H
            clear H
            go_wp2
            go_meet
            case rel => exact ⟨_, (true), (by first | rfl | (simp; done) | (simp [*]; done)), H', ⟨by first | omega | exact Nat.le_refl _⟩, ⟨by repeat (first | (with_reducible first | exact HB.out | apply below_alloc | apply pw_below_drewN | apply below_drew1) | exact HB.out)⟩⟩
        · rw [if_neg c7] at H
          have c7b0 : (a0 == 24) = false := beq_eq_false_iff_ne.mpr c7
          have c7b1 : (a0 != 24) = true := bne_iff_ne.mpr c7
          have H' := Aside0.mk H
          clear H
          go_wp2
          go_meet
          case rel => exact ⟨_, (false), (by first | rfl | (simp; done) | (simp [*]; done)), H', ⟨by first | omega | exact Nat.le_refl _⟩, ⟨by repeat (first | (with_reducible first | exact HB.out | apply below_alloc | apply pw_below_drewN | apply below_drew1) | exact HB.out)⟩⟩
      · rw [if_neg c6] at H
        have c6b0 : (a1 == 13) = false := beq_eq_false_iff_ne.mpr c6
        have c6b1 : (a1 != 13) = true := bne_iff_ne.mpr c6
        have H' := Aside0.mk H
        clear H
        go_wp2
        go_meet
        case rel => exact ⟨_, (true), (by first | rfl | (simp; done) | (simp [*]; done)), H', ⟨by first | omega | exact Nat.le_refl _⟩, ⟨by repeat (first | (with_reducible first | exact HB.out | apply below_alloc | apply pw_below_drewN | apply below_drew1) | exact HB.out)⟩⟩
    · rw [if_neg c5] at H
      have c5b0 : (a0 == 23) = false := beq_eq_false_iff_ne.mpr c5
      have c5b1 : (a0 != 23) = true := bne_iff_ne.mpr c5
      (first | rw [c5b0] | (simp only [i64_w, i32_w]; rw [c5b0]) | skip)
      by_cases c9 : a0 = 24
      · rw [if_pos c9] at H
        have c9b0 : (a0 == 24) = true := beq_iff_eq.mpr c9
        have c9b1 : (a0 != 24) = false := bne_eq_false_iff_eq.mpr c9
        clear c9
        by_cases c10 : a1 = 15
        · rw [if_pos c10] at H
          have c10b0 : (a1 == 15) = true := beq_iff_eq.mpr c10
          have c10b1 : (a1 != 15) = false := bne_eq_false_iff_eq.mpr c10
          clear c10
          have H' := Aside0.mk H
          clear H
          go_wp2
          go_meet
          case rel => exact ⟨_, (false), (by first | rfl | (simp; done) | (simp [*]; done)), H', ⟨by first | omega | exact Nat.le_refl _⟩, ⟨by repeat (first | (with_reducible first | exact HB.out | apply below_alloc | apply pw_below_drewN | apply below_drew1) | exact HB.out)⟩⟩
        · rw [if_neg c10] at H
          have c10b0 : (a1 == 15) = false := beq_eq_false_iff_ne.mpr c10
          have c10b1 : (a1 != 15) = true := bne_iff_ne.mpr c10
          have H' := Aside0.mk H
          clear H
          go_wp2
          go_meet
          case rel => exact ⟨_, (true), (by first | rfl | (simp; done) | (simp [*]; done)), H', ⟨by first | omega | exact Nat.le_refl _⟩, ⟨by repeat (first | (with_reducible first | exact HB.out | apply below_alloc | apply pw_below_drewN | apply below_drew1) | exact HB.out)⟩⟩
      · rw [if_neg c9] at H
        have c9b0 : (a0 == 24) = false := beq_eq_false_iff_ne.mpr c9
        have c9b1 : (a0 != 24) = true := bne_iff_ne.mpr c9
        have H' := Aside0.mk H
        clear H
        go_wp2
        go_meet
        case rel => exact ⟨_, (true), (by first | rfl | (simp; done) | (simp [*]; done)), H', ⟨by first | omega | exact Nat.le_refl _⟩, ⟨by repeat (first | (with_reducible first | exact HB.out | apply below_alloc | apply pw_below_drewN | apply below_drew1) | exact HB.out)⟩⟩
  case rest =>
    clear HC4
    try clear c1
    try clear c2
    try clear p2
    try clear c5
    try clear c5b0
    try clear c5b1
    try clear c6
    try clear c6b0
    try clear c6b1
    try clear c7
    try clear c7b0
    try clear c7b1
    try clear c8
    try clear c8b0
    try clear c8b1
    try clear c9
    try clear c9b0
    try clear c9b1
    try clear c10
    try clear c10b0
    try clear c10b1
    obtain ⟨kq, x28_3, rfl, HA, HJ3, HB⟩ := hcut
    cases kq with
    | zero => exact absurd HA.out (by simp [gantletref13_Can.j0])
    | succ kj3 =>
      have H := HA.out
      clear HA
      simp only [gantletref13_Can.j0] at H
      by_cases c11 : x28_3 = true
      · subst c11
        have H1 : (some false) = some r := by rw [if_pos rfl] at H; exact H
        clear H
        have H := H1
        clear H1
        obtain rfl := Option.some.inj H
        go_wp2
        go_ret
        exact ⟨by first | rfl | (simp [errW_none, errW_some] <;> rfl) | (simp [*, errW_none, errW_some] <;> rfl), by repeat (first | (with_reducible first | exact HB.out | apply below_alloc | apply pw_below_drewN | apply below_drew1) | exact HB.out)⟩
      · replace c11 := Bool.eq_false_iff.mpr c11
        subst c11
        have H1 : (if (a2.size : Int) ≤ (wrap64 (a1 - 11)) then ((gantletref13_plain.f kj3 a2).bind fun t166 => (if t166 = true then (if a0 = 23 then (some true) else ((gantletref13_year.f kj3 a2).bind fun t167 => (some t167))) else (some false))) else ((gantletref13_grow.f kj3 a0 a1 a2).bind fun t168 => (some t168))) = some r := by rw [if_neg (show ¬ (false = true) by decide)] at H; exact H
        clear H
        have H := H1
        clear H1
        by_cases c12 : (a2.size : Int) ≤ (wrap64 (a1 - 11))
        · rw [if_pos c12] at H
          have c12b0 : decide ((a2.size : Int) ≤ (wrap64 (a1 - 11))) = true := decide_eq_true c12
          clear c12
          replace H := Option.bind_eq_some_iff.mp H
          obtain ⟨t166, A130, H⟩ := H
          replace H : (if t166 = true then (if a0 = 23 then (some true) else ((gantletref13_year.f kj3 a2).bind fun t167 => (some t167))) else (some false)) = some r := H
          have A13 := Aside0.mk A130
          clear A130
          by_cases c14 : t166 = true
          · subst c14
            have H1 : (if a0 = 23 then (some true) else ((gantletref13_year.f kj3 a2).bind fun t167 => (some t167))) = some r := by rw [if_pos rfl] at H; exact H
            clear H
            have H := H1
            clear H1
            by_cases c15 : a0 = 23
            · rw [if_pos c15] at H
              have c15b0 : (a0 == 23) = true := beq_iff_eq.mpr c15
              have c15b1 : (a0 != 23) = false := bne_eq_false_iff_eq.mpr c15
              clear c15
              obtain rfl := Option.some.inj H
              go_wp2_with (first | ((with_reducible refine gate_callee (f := 24) rfl ?_); refine goesL_ (some 35) rfl rfl Try.func24 (by kernel_rfl) rfl #[.string a2] rfl (by (try simp only [List.map_toArray, List.map_cons, List.map_nil]); first | done | rfl | (simp only [List.length_drop, List.length_take]; rfl)) ?_; (with_reducible refine (gantletref13_plain.calls kj3 a2 true _ A13.out).mono ?_); rintro e w' ⟨rfl, ⟨nd, rfl⟩⟩; refine ⟨_, rfl, ?_⟩))
              go_ret
              exact ⟨by first | rfl | (simp [errW_none, errW_some] <;> rfl) | (simp [*, errW_none, errW_some] <;> rfl), by repeat (first | (with_reducible first | exact HB.out | apply below_alloc | apply pw_below_drewN | apply below_drew1) | exact HB.out)⟩
            · rw [if_neg c15] at H
              have c15b0 : (a0 == 23) = false := beq_eq_false_iff_ne.mpr c15
              have c15b1 : (a0 != 23) = true := bne_iff_ne.mpr c15
              replace H := Option.bind_eq_some_iff.mp H
              obtain ⟨t167, A160, H⟩ := H
              replace H : (some t167) = some r := H
              have A16 := Aside0.mk A160
              clear A160
              obtain rfl := Option.some.inj H
              go_wp2_with (first | ((with_reducible refine gate_callee (f := 24) rfl ?_); refine goesL_ (some 35) rfl rfl Try.func24 (by kernel_rfl) rfl #[.string a2] rfl (by (try simp only [List.map_toArray, List.map_cons, List.map_nil]); first | done | rfl | (simp only [List.length_drop, List.length_take]; rfl)) ?_; (with_reducible refine (gantletref13_plain.calls kj3 a2 true _ A13.out).mono ?_); rintro e w' ⟨rfl, ⟨nd, rfl⟩⟩; refine ⟨_, rfl, ?_⟩) | (go_at_call 25; (with_reducible refine (gantletref13_year.calls kj3 a2 t167 _ A16.out).mono ?_); rintro e w' ⟨rfl, ⟨nd, rfl⟩⟩))
              go_ret
              exact ⟨by first | rfl | (simp [errW_none, errW_some] <;> rfl) | (simp [*, errW_none, errW_some] <;> rfl), by repeat (first | (with_reducible first | exact HB.out | apply below_alloc | apply pw_below_drewN | apply below_drew1) | exact HB.out)⟩
          · replace c14 := Bool.eq_false_iff.mpr c14
            subst c14
            have H1 : (some false) = some r := by rw [if_neg (show ¬ (false = true) by decide)] at H; exact H
            clear H
            have H := H1
            clear H1
            obtain rfl := Option.some.inj H
            go_wp2_with (first | ((with_reducible refine gate_callee (f := 24) rfl ?_); refine goesL_ (some 35) rfl rfl Try.func24 (by kernel_rfl) rfl #[.string a2] rfl (by (try simp only [List.map_toArray, List.map_cons, List.map_nil]); first | done | rfl | (simp only [List.length_drop, List.length_take]; rfl)) ?_; (with_reducible refine (gantletref13_plain.calls kj3 a2 false _ A13.out).mono ?_); rintro e w' ⟨rfl, ⟨nd, rfl⟩⟩; refine ⟨_, rfl, ?_⟩))
            go_ret
            exact ⟨by first | rfl | (simp [errW_none, errW_some] <;> rfl) | (simp [*, errW_none, errW_some] <;> rfl), by repeat (first | (with_reducible first | exact HB.out | apply below_alloc | apply pw_below_drewN | apply below_drew1) | exact HB.out)⟩
        · rw [if_neg c12] at H
          have c12b0 : decide ((a2.size : Int) ≤ (wrap64 (a1 - 11))) = false := decide_eq_false c12
          clear c12
          replace H := Option.bind_eq_some_iff.mp H
          obtain ⟨t168, A170, H⟩ := H
          replace H : (some t168) = some r := H
          have A17 := Aside0.mk A170
          clear A170
          obtain rfl := Option.some.inj H
          go_wp2_with (first | ((with_reducible refine gate_callee (f := 26) rfl ?_); refine goesL_ (some 47) rfl rfl Try.func26 (by kernel_rfl) rfl #[.int .i64 a0, .int .i64 a1, .string a2] rfl (by (try simp only [List.map_toArray, List.map_cons, List.map_nil]); first | done | rfl | (simp only [List.length_drop, List.length_take]; rfl)) ?_; (with_reducible refine (gantletref13_grow.calls kj3 a0 a1 a2 t168 _ A17.out).mono ?_); rintro e w18 ⟨rfl, hb⟩; refine ⟨_, rfl, ?_⟩; have n0_ := Aside0.mk (below_step (by repeat (first | (with_reducible first | exact HB.out | apply below_alloc | apply pw_below_drewN | apply below_drew1) | exact HB.out)) hb); clear HB; have HB := n0_; clear n0_; (try clear hb); (try clear hb2); (try clear hk); (try clear hi)))
          go_ret
          exact ⟨by first | rfl | (simp [errW_none, errW_some] <;> rfl) | (simp [*, errW_none, errW_some] <;> rfl), by repeat (first | (with_reducible first | exact HB.out | apply below_alloc | apply pw_below_drewN | apply below_drew1) | exact HB.out)⟩

end Go.Proofs.Ytailnnjkbiihmaa.PA
