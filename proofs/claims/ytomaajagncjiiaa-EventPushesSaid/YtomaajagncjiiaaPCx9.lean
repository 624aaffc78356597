-- Written by a program of this session (print2, a turned print): not PRINTED BY print.sh
import Derived.Test.YtomaajagncjiiaaPCx0
namespace Go.Proofs.Ytomaajagncjiiaa.PC
open Go.RowKit Go.Proofs.YtomaajagncjiiaaW.PrintWords Go.Proofs.YtomaajagncjiiaaW.PrintLast Go.Proofs.YtomaajagncjiiaaW.PrintMore
attribute [local go_sem] max2_int min2_int max_two min_two max_three min_three max_four min_four   -- for this text's walks alone
set_option linter.unusedVariables false
set_option linter.unusedSimpArgs false

/-! ### gantletref06_Get: function 47 -/
mutual
def gantletref06_Get.j0 : Nat → ByteArray → Int → Bool → Option (Int × Int × Int)
 | 0, _, _, _ => none
 | k + 1, x0, x1, x19 => if x19 = true then (some (0, 0, 1)) else (if x1 = (x0.size : Int) then (some (0, x1, 2)) else (if 0 ≤ x1 then (if x1 < (x0.size : Int) then (if (wrap64 (bt x0 x1)) < 128 then (some (wrap64 (bt x0 x1), wrap64 (x1 + 1), 0)) else (if (wrap64 (bt x0 x1)) = 128 then (gantletref06_Get.j1 k x0 x1 (wrap64 (bt x0 x1)) true) else (gantletref06_Get.j1 k x0 x1 (wrap64 (bt x0 x1)) (decide ((wrap64 (bt x0 x1)) > 136))))) else (none)) else (none)))
def gantletref06_Get.j1 : Nat → ByteArray → Int → Int → Bool → Option (Int × Int × Int)
 | 0, _, _, _, _ => none
 | k + 1, x0, x1, x7, x39 => if x39 = true then (some (0, x1, 4)) else (if 0 ≤ (wrap64 (x1 + 1)) then (if (wrap64 (x1 + 1)) ≤ (x0.size : Int) then (if ((x0.extract ((wrap64 (x1 + 1)) : Int).toNat x0.size).size : Int) > 0 then (if 0 < ((x0.extract ((wrap64 (x1 + 1)) : Int).toNat x0.size).size : Int) then (if (bt (x0.extract ((wrap64 (x1 + 1)) : Int).toNat x0.size) 0) = 0 then (gantletref06_Get.j2 k x0 x1 (x0.extract ((wrap64 (x1 + 1)) : Int).toNat x0.size) (wrap64 (x7 - 128)) true) else (if (wrap64 (x7 - 128)) = 1 then (gantletref06_Get.j2 k x0 x1 (x0.extract ((wrap64 (x1 + 1)) : Int).toNat x0.size) (wrap64 (x7 - 128)) (decide ((bt (x0.extract ((wrap64 (x1 + 1)) : Int).toNat x0.size) 0) < 128))) else (gantletref06_Get.j2 k x0 x1 (x0.extract ((wrap64 (x1 + 1)) : Int).toNat x0.size) (wrap64 (x7 - 128)) false))) else (none)) else (gantletref06_Get.j2 k x0 x1 (x0.extract ((wrap64 (x1 + 1)) : Int).toNat x0.size) (wrap64 (x7 - 128)) false)) else (none)) else (none))
def gantletref06_Get.j2 : Nat → ByteArray → Int → ByteArray → Int → Bool → Option (Int × Int × Int)
 | 0, _, _, _, _, _ => none
 | k + 1, x0, x1, x8, x9, x63 => if x63 = true then (some (0, wrap64 (x1 + 1), 4)) else (if (x8.size : Int) < x9 then (some (0, (x0.size : Int), 2)) else (gantletref06_Get.l0 k x1 x8 x9 0 0))
def gantletref06_Get.l0 : Nat → Int → ByteArray → Int → Int → Int → Option (Int × Int × Int)
 | 0, _, _, _, _, _ => none
 | k + 1, x1, x8, x9, x10, x11 => if x11 < x9 then (if x10 > 9007199254740991 then (some (0, wrap64 (x1 + x9), 4)) else (if x10 = 9007199254740991 then (if 0 ≤ x11 then (if x11 < (x8.size : Int) then (if (wrap64 (bt x8 x11)) > 255 then (some (0, wrap64 (x1 + x9), 4)) else (gantletref06_Get.l0 k x1 x8 x9 (wrap64 ((wrap64 (256 * x10)) + (wrap64 (bt x8 x11)))) (wrap64 (x11 + 1)))) else (none)) else (none)) else (if 0 ≤ x11 then (if x11 < (x8.size : Int) then (gantletref06_Get.l0 k x1 x8 x9 (wrap64 ((wrap64 (256 * x10)) + (wrap64 (bt x8 x11)))) (wrap64 (x11 + 1))) else (none)) else (none)))) else (if x10 > 2305843009213693951 then (some (0, wrap64 (x1 + x9), 4)) else (some (x10, wrap64 ((wrap64 (x1 + 1)) + x9), 0)))
end
def gantletref06_Get.f (k : Nat) (a0 : ByteArray) (a1 : Int) : Option (Int × Int × Int) := if a1 < 0 then (gantletref06_Get.j0 k a0 a1 true) else (gantletref06_Get.j0 k a0 a1 (decide (a1 > (a0.size : Int))))
theorem gantletref06_Get.mono_l : ∀ k, (∀ y0 y1 y2, LeO (gantletref06_Get.j0 k y0 y1 y2) (gantletref06_Get.j0 (k + 1) y0 y1 y2)) ∧ (∀ y0 y1 y2 y3, LeO (gantletref06_Get.j1 k y0 y1 y2 y3) (gantletref06_Get.j1 (k + 1) y0 y1 y2 y3)) ∧ (∀ y0 y1 y2 y3 y4, LeO (gantletref06_Get.j2 k y0 y1 y2 y3 y4) (gantletref06_Get.j2 (k + 1) y0 y1 y2 y3 y4)) ∧ (∀ y0 y1 y2 y3 y4, LeO (gantletref06_Get.l0 k y0 y1 y2 y3 y4) (gantletref06_Get.l0 (k + 1) y0 y1 y2 y3 y4))
 | 0 => ⟨fun _ _ _ r h => by simp [gantletref06_Get.j0] at h, fun _ _ _ _ r h => by simp [gantletref06_Get.j1] at h, fun _ _ _ _ _ r h => by simp [gantletref06_Get.j2] at h, fun _ _ _ _ _ r h => by simp [gantletref06_Get.l0] at h⟩
 | k + 1 => by
   obtain ⟨ih0, ih1, ih2, ih3⟩ := gantletref06_Get.mono_l k
   refine ⟨?_, ?_, ?_, ?_⟩
   ·
    intro y0 y1 y2
    unfold gantletref06_Get.j0
    repeat' first
    | (with_reducible exact ih0 _ _ _)
    | (with_reducible exact ih1 _ _ _ _)
    | (with_reducible exact ih2 _ _ _ _ _)
    | (with_reducible exact ih3 _ _ _ _ _)
    | (with_reducible exact LeO.refl _)
    | (with_reducible exact LeO.none _)
    | (with_reducible refine LeO.ite ?_ ?_)
    | (with_reducible refine LeO.bind ?_ (fun _ => ?_))
    | exact ih0 _ _ _
    | exact ih1 _ _ _ _
    | exact ih2 _ _ _ _ _
    | exact ih3 _ _ _ _ _
    | exact LeO.none _
    | refine LeO.ite ?_ ?_
    | refine LeO.bind ?_ (fun _ => ?_)
   ·
    intro y0 y1 y2 y3
    unfold gantletref06_Get.j1
    repeat' first
    | (with_reducible exact ih0 _ _ _)
    | (with_reducible exact ih1 _ _ _ _)
    | (with_reducible exact ih2 _ _ _ _ _)
    | (with_reducible exact ih3 _ _ _ _ _)
    | (with_reducible exact LeO.refl _)
    | (with_reducible exact LeO.none _)
    | (with_reducible refine LeO.ite ?_ ?_)
    | (with_reducible refine LeO.bind ?_ (fun _ => ?_))
    | exact ih0 _ _ _
    | exact ih1 _ _ _ _
    | exact ih2 _ _ _ _ _
    | exact ih3 _ _ _ _ _
    | exact LeO.none _
    | refine LeO.ite ?_ ?_
    | refine LeO.bind ?_ (fun _ => ?_)
   ·
    intro y0 y1 y2 y3 y4
    unfold gantletref06_Get.j2
    repeat' first
    | (with_reducible exact ih0 _ _ _)
    | (with_reducible exact ih1 _ _ _ _)
    | (with_reducible exact ih2 _ _ _ _ _)
    | (with_reducible exact ih3 _ _ _ _ _)
    | (with_reducible exact LeO.refl _)
    | (with_reducible exact LeO.none _)
    | (with_reducible refine LeO.ite ?_ ?_)
    | (with_reducible refine LeO.bind ?_ (fun _ => ?_))
    | exact ih0 _ _ _
    | exact ih1 _ _ _ _
    | exact ih2 _ _ _ _ _
    | exact ih3 _ _ _ _ _
    | exact LeO.none _
    | refine LeO.ite ?_ ?_
    | refine LeO.bind ?_ (fun _ => ?_)
   ·
    intro y0 y1 y2 y3 y4
    unfold gantletref06_Get.l0
    repeat' first
    | (with_reducible exact ih0 _ _ _)
    | (with_reducible exact ih1 _ _ _ _)
    | (with_reducible exact ih2 _ _ _ _ _)
    | (with_reducible exact ih3 _ _ _ _ _)
    | (with_reducible exact LeO.refl _)
    | (with_reducible exact LeO.none _)
    | (with_reducible refine LeO.ite ?_ ?_)
    | (with_reducible refine LeO.bind ?_ (fun _ => ?_))
    | exact ih0 _ _ _
    | exact ih1 _ _ _ _
    | exact ih2 _ _ _ _ _
    | exact ih3 _ _ _ _ _
    | exact LeO.none _
    | refine LeO.ite ?_ ?_
    | refine LeO.bind ?_ (fun _ => ?_)
theorem gantletref06_Get.mono : ∀ a0 a1 k, LeO (gantletref06_Get.f k a0 a1) (gantletref06_Get.f (k + 1) a0 a1) := by
 intro a0 a1 k
 obtain ⟨ih0, ih1, ih2, ih3⟩ := gantletref06_Get.mono_l k
 unfold gantletref06_Get.f
 repeat' first
  | (with_reducible exact ih0 _ _ _)
  | (with_reducible exact ih1 _ _ _ _)
  | (with_reducible exact ih2 _ _ _ _ _)
  | (with_reducible exact ih3 _ _ _ _ _)
  | (with_reducible exact LeO.refl _)
  | (with_reducible exact LeO.none _)
  | (with_reducible refine LeO.ite ?_ ?_)
  | (with_reducible refine LeO.bind ?_ (fun _ => ?_))
  | exact ih0 _ _ _
  | exact ih1 _ _ _ _
  | exact ih2 _ _ _ _ _
  | exact ih3 _ _ _ _ _
  | exact LeO.none _
  | refine LeO.ite ?_ ?_
  | refine LeO.bind ?_ (fun _ => ?_)
set_option maxHeartbeats 8000000 in
set_option maxRecDepth 100000 in
theorem gantletref06_Get.calls (k : Nat) (a0 : ByteArray) (a1 : Int) (r1 : Int) (r2 : Int) (r3 : Int) (w : World) (h : gantletref06_Get.f k a0 a1 = some (r1, r2, r3)) :
 Calls Try.prog 47 #[.string a0, .int .i64 a1] w fun e w' => e = .returned (.tuple #[.int .i64 r1, .int .i64 r2, .int .i64 r3]) ∧ Drawn0 w w' := by
 have H : (if a1 < 0 then (gantletref06_Get.j0 k a0 a1 true) else (gantletref06_Get.j0 k a0 a1 (decide (a1 > (a0.size : Int))))) = some (r1, r2, r3) := h
 clear h
 have HC3 := Aside0.mk H
 clear H
 go_enter Try.func47, Try.ntmps47
 go_upto_region 1 with (fail)
 go_cut [19] (fun v19 wc => ∃ (kq : Nat) (x19_2 : Bool), v19 = .bool x19_2 ∧ Aside0 (gantletref06_Get.j0 kq a0 a1 x19_2 = some (r1, r2, r3)) ∧ Aside0 (kq ≤ k) ∧ Drawn0 w wc)
 case first =>
  have H := HC3.out
  clear HC3
  by_cases c4 : a1 < 0
  ·
   rw [if_pos c4] at H
   have c4b0 : decide (a1 < 0) = true := decide_eq_true c4
   clear c4
   (first | rw [c4b0] | (simp only [i64_w, i32_w]; rw [c4b0]) | skip)
   have H' := Aside0.mk H
   clear H
   go_wp2
   go_meet
   case rel => exact ⟨_, (true), (by first | rfl | (simp; done) | (simp [*]; done) | (simp [show ∀ l : List UInt8, (!l.isEmpty) = (l != []) from fun l => by cases l <;> rfl]; done)), H', ⟨by first | omega | exact Nat.le_refl _⟩, by repeat (first | exact Drawn0.refl _ | apply Drawn0.step)⟩
  ·
   rw [if_neg c4] at H
   have c4b0 : decide (a1 < 0) = false := decide_eq_false c4
   clear c4
   (first | rw [c4b0] | (simp only [i64_w, i32_w]; rw [c4b0]) | skip)
   have H' := Aside0.mk H
   clear H
   go_wp2
   go_meet
   case rel => exact ⟨_, (decide (a1 > (a0.size : Int))), (by first | rfl | (simp; done) | (simp [*]; done) | (simp [show ∀ l : List UInt8, (!l.isEmpty) = (l != []) from fun l => by cases l <;> rfl]; done)), H', ⟨by first | omega | exact Nat.le_refl _⟩, by repeat (first | exact Drawn0.refl _ | apply Drawn0.step)⟩
 case rest =>
  clear HC3
  try clear p2
  try clear c4
  try clear c4b0
  obtain ⟨kq, x19_2, rfl, HA, HJ2, ⟨mc2, rfl⟩⟩ := hcut
  cases kq with
  | zero => exact absurd HA.out (by simp [gantletref06_Get.j0])
  | succ kj2 =>
    have H := HA.out
    clear HA
    simp only [gantletref06_Get.j0] at H
    by_cases c5 : x19_2 = true
    ·
     subst c5
     have H1 : (some (0, 0, 1)) = some (r1, r2, r3) := by rw [if_pos rfl] at H; exact H
     clear H
     have H := H1
     clear H1
     simp only [Option.some.injEq, Prod.mk.injEq] at H
     obtain ⟨rfl, rfl, rfl⟩ := H
     go_wp2
     go_ret3
     exact ⟨by first | rfl | (simp; done) | (simp [*]; done) | (simp [show ∀ l : List UInt8, (!l.isEmpty) = (l != []) from fun l => by cases l <;> rfl]; done), by repeat (first | exact Drawn0.refl _ | apply Drawn0.step)⟩
    ·
     replace c5 := Bool.eq_false_iff.mpr c5
     subst c5
     have H1 : (if a1 = (a0.size : Int) then (some (0, a1, 2)) else (if 0 ≤ a1 then (if a1 < (a0.size : Int) then (if (wrap64 (bt a0 a1)) < 128 then (some (wrap64 (bt a0 a1), wrap64 (a1 + 1), 0)) else (if (wrap64 (bt a0 a1)) = 128 then (gantletref06_Get.j1 kj2 a0 a1 (wrap64 (bt a0 a1)) true) else (gantletref06_Get.j1 kj2 a0 a1 (wrap64 (bt a0 a1)) (decide ((wrap64 (bt a0 a1)) > 136))))) else (none)) else (none))) = some (r1, r2, r3) := by rw [if_neg (show ¬ (false = true) by decide)] at H; exact H
     clear H
     have H := H1
     clear H1
     by_cases c6 : a1 = (a0.size : Int)
     ·
      rw [if_pos c6] at H
      have c6b0 : (a1 == (a0.size : Int)) = true := beq_iff_eq.mpr c6
      have c6b1 : (a1 != (a0.size : Int)) = false := bne_eq_false_iff_eq.mpr c6
      clear c6
      simp only [Option.some.injEq, Prod.mk.injEq] at H
      obtain ⟨rfl, rfl, rfl⟩ := H
      go_wp2
      go_ret3
      exact ⟨by first | rfl | (simp; done) | (simp [*]; done) | (simp [show ∀ l : List UInt8, (!l.isEmpty) = (l != []) from fun l => by cases l <;> rfl]; done), by repeat (first | exact Drawn0.refl _ | apply Drawn0.step)⟩
     ·
      rw [if_neg c6] at H
      have c6b0 : (a1 == (a0.size : Int)) = false := beq_eq_false_iff_ne.mpr c6
      have c6b1 : (a1 != (a0.size : Int)) = true := bne_iff_ne.mpr c6
      by_cases c7 : 0 ≤ a1
      ·
       rw [if_pos c7] at H
       have c7b0 : decide (0 ≤ a1) = true := decide_eq_true c7
       clear c7
       by_cases c8 : a1 < (a0.size : Int)
       ·
        rw [if_pos c8] at H
        have c8b0 : decide (a1 < (a0.size : Int)) = true := decide_eq_true c8
        clear c8
        by_cases c10 : (wrap64 (bt a0 a1)) < 128
        ·
         rw [if_pos c10] at H
         have c10b0 : decide ((wrap64 (bt a0 a1)) < 128) = true := decide_eq_true c10
         clear c10
         simp only [Option.some.injEq, Prod.mk.injEq] at H
         obtain ⟨rfl, rfl, rfl⟩ := H
         have p9 : 0 ≤ (a1 : Int) := of_decide_eq_true (by first | (with_reducible assumption) | assumption)
         have q9 : a1 < (a0.size : Int) := of_decide_eq_true (by first | (with_reducible assumption) | assumption)
         have hx9 := bt_at a0 a1
         replace p9 := eq_true p9
         replace q9 := eq_true q9
         go_wp2
         go_ret3
         exact ⟨by first | rfl | (simp; done) | (simp [*]; done) | (simp [show ∀ l : List UInt8, (!l.isEmpty) = (l != []) from fun l => by cases l <;> rfl]; done), by repeat (first | exact Drawn0.refl _ | apply Drawn0.step)⟩
        ·
         rw [if_neg c10] at H
         have c10b0 : decide ((wrap64 (bt a0 a1)) < 128) = false := decide_eq_false c10
         clear c10
         have HC11 := Aside0.mk H
         clear H
         have p9 : 0 ≤ (a1 : Int) := of_decide_eq_true (by first | (with_reducible assumption) | assumption)
         have q9 : a1 < (a0.size : Int) := of_decide_eq_true (by first | (with_reducible assumption) | assumption)
         have hx9 := bt_at a0 a1
         replace p9 := eq_true p9
         replace q9 := eq_true q9
         go_upto_region 8 with (fail)
         go_cut [39] (fun v39 wc => ∃ (kq : Nat) (x39_10 : Bool), v39 = .bool x39_10 ∧ Aside0 (gantletref06_Get.j1 kq a0 a1 (wrap64 (bt a0 a1)) x39_10 = some (r1, r2, r3)) ∧ Aside0 (kq ≤ kj2) ∧ Drawn0 w wc)
         case first =>
          have H := HC11.out
          clear HC11
          by_cases c12 : (wrap64 (bt a0 a1)) = 128
          ·
           rw [if_pos c12] at H
           have c12b0 : ((wrap64 (bt a0 a1)) == 128) = true := beq_iff_eq.mpr c12
           have c12b1 : ((wrap64 (bt a0 a1)) != 128) = false := bne_eq_false_iff_eq.mpr c12
           clear c12
           (first | rw [c12b0] | (simp only [i64_w, i32_w]; rw [c12b0]) | skip)
           have H' := Aside0.mk H
           clear H
           go_wp2
           go_meet
           case rel => exact ⟨_, (true), (by first | rfl | (simp; done) | (simp [*]; done) | (simp [show ∀ l : List UInt8, (!l.isEmpty) = (l != []) from fun l => by cases l <;> rfl]; done)), H', ⟨by have := HJ2.out; first | omega | exact Nat.le_refl _⟩, by repeat (first | exact Drawn0.refl _ | apply Drawn0.step)⟩
          ·
           rw [if_neg c12] at H
           have c12b0 : ((wrap64 (bt a0 a1)) == 128) = false := beq_eq_false_iff_ne.mpr c12
           have c12b1 : ((wrap64 (bt a0 a1)) != 128) = true := bne_iff_ne.mpr c12
           (first | rw [c12b0] | (simp only [i64_w, i32_w]; rw [c12b0]) | skip)
           have H' := Aside0.mk H
           clear H
           go_wp2
           go_meet
           case rel => exact ⟨_, (decide ((wrap64 (bt a0 a1)) > 136)), (by first | rfl | (simp; done) | (simp [*]; done) | (simp [show ∀ l : List UInt8, (!l.isEmpty) = (l != []) from fun l => by cases l <;> rfl]; done)), H', ⟨by have := HJ2.out; first | omega | exact Nat.le_refl _⟩, by repeat (first | exact Drawn0.refl _ | apply Drawn0.step)⟩
         case rest =>
          clear HC11
          try clear c1
          try clear c2
          try clear p2
          try clear c4
          try clear c4b0
          try clear c5
          try clear c6
          try clear c6b0
          try clear c6b1
          try clear p6
          try clear c7
          try clear c7b0
          try clear c8
          try clear c8b0
          try clear p9
          try clear q9
          try clear hx9
          try clear c10
          try clear c10b0
          try clear c12
          try clear c12b0
          try clear c12b1
          try clear p2
          try clear p9
          try clear q9
          obtain ⟨kq, x39_10, rfl, HA, HJ10, ⟨mc10, rfl⟩⟩ := hcut
          cases kq with
          | zero => exact absurd HA.out (by simp [gantletref06_Get.j1])
          | succ kj10 =>
            have H := HA.out
            clear HA
            simp only [gantletref06_Get.j1] at H
            by_cases c13 : x39_10 = true
            ·
             subst c13
             have H1 : (some (0, a1, 4)) = some (r1, r2, r3) := by rw [if_pos rfl] at H; exact H
             clear H
             have H := H1
             clear H1
             simp only [Option.some.injEq, Prod.mk.injEq] at H
             obtain ⟨rfl, rfl, rfl⟩ := H
             go_wp2
             go_ret3
             exact ⟨by first | rfl | (simp; done) | (simp [*]; done) | (simp [show ∀ l : List UInt8, (!l.isEmpty) = (l != []) from fun l => by cases l <;> rfl]; done), by repeat (first | exact Drawn0.refl _ | apply Drawn0.step)⟩
            ·
             replace c13 := Bool.eq_false_iff.mpr c13
             subst c13
             have H1 : (if 0 ≤ (wrap64 (a1 + 1)) then (if (wrap64 (a1 + 1)) ≤ (a0.size : Int) then (if ((a0.extract ((wrap64 (a1 + 1)) : Int).toNat a0.size).size : Int) > 0 then (if 0 < ((a0.extract ((wrap64 (a1 + 1)) : Int).toNat a0.size).size : Int) then (if (bt (a0.extract ((wrap64 (a1 + 1)) : Int).toNat a0.size) 0) = 0 then (gantletref06_Get.j2 kj10 a0 a1 (a0.extract ((wrap64 (a1 + 1)) : Int).toNat a0.size) (wrap64 ((wrap64 (bt a0 a1)) - 128)) true) else (if (wrap64 ((wrap64 (bt a0 a1)) - 128)) = 1 then (gantletref06_Get.j2 kj10 a0 a1 (a0.extract ((wrap64 (a1 + 1)) : Int).toNat a0.size) (wrap64 ((wrap64 (bt a0 a1)) - 128)) (decide ((bt (a0.extract ((wrap64 (a1 + 1)) : Int).toNat a0.size) 0) < 128))) else (gantletref06_Get.j2 kj10 a0 a1 (a0.extract ((wrap64 (a1 + 1)) : Int).toNat a0.size) (wrap64 ((wrap64 (bt a0 a1)) - 128)) false))) else (none)) else (gantletref06_Get.j2 kj10 a0 a1 (a0.extract ((wrap64 (a1 + 1)) : Int).toNat a0.size) (wrap64 ((wrap64 (bt a0 a1)) - 128)) false)) else (none)) else (none)) = some (r1, r2, r3) := by rw [if_neg (show ¬ (false = true) by decide)] at H; exact H
             clear H
             have H := H1
             clear H1
             obtain ⟨ji14, hji14⟩ : ∃ j_ : Int, (wrap64 (a1 + 1)) = j_ := ⟨_, rfl⟩
             replace H : (if 0 ≤ (ji14) then (if (ji14) ≤ (a0.size : Int) then (if ((a0.extract ((ji14) : Int).toNat a0.size).size : Int) > 0 then (if 0 < ((a0.extract ((ji14) : Int).toNat a0.size).size : Int) then (if (bt (a0.extract ((ji14) : Int).toNat a0.size) 0) = 0 then (gantletref06_Get.j2 kj10 a0 a1 (a0.extract ((ji14) : Int).toNat a0.size) (wrap64 ((wrap64 (bt a0 a1)) - 128)) true) else (if (wrap64 ((wrap64 (bt a0 a1)) - 128)) = 1 then (gantletref06_Get.j2 kj10 a0 a1 (a0.extract ((ji14) : Int).toNat a0.size) (wrap64 ((wrap64 (bt a0 a1)) - 128)) (decide ((bt (a0.extract ((ji14) : Int).toNat a0.size) 0) < 128))) else (gantletref06_Get.j2 kj10 a0 a1 (a0.extract ((ji14) : Int).toNat a0.size) (wrap64 ((wrap64 (bt a0 a1)) - 128)) false))) else (none)) else (gantletref06_Get.j2 kj10 a0 a1 (a0.extract ((ji14) : Int).toNat a0.size) (wrap64 ((wrap64 (bt a0 a1)) - 128)) false)) else (none)) else (none)) = some (r1, r2, r3) := by first | (rw [hji14] at H; exact H) | (simp only [hji14] at H ⊢; exact H)
             have hji14w : (IntKind.i64.wrap (a1 + 1)) = ji14 := (i64_w _).trans hji14
             by_cases c15 : 0 ≤ (ji14)
             ·
              rw [if_pos c15] at H
              have c15b0 := eq_true c15
              have c15b1 : decide (0 ≤ (ji14)) = true := decide_eq_true c15
              clear c15
              by_cases c16 : (ji14) ≤ (a0.size : Int)
              ·
               rw [if_pos c16] at H
               have c16b0 := eq_true c16
               have c16b1 : decide ((ji14) ≤ (a0.size : Int)) = true := decide_eq_true c16
               clear c16
               obtain ⟨xt14, hxt14⟩ : ∃ x_ : ByteArray, (a0.extract ((ji14) : Int).toNat a0.size) = x_ := ⟨_, rfl⟩
               rw [hxt14] at H
               have HC17 := Aside0.mk H
               clear H
               go_upto_region 12 with (fail)
               go_cut [63] (fun v63 wc => ∃ (kq : Nat) (x63_16 : Bool), v63 = .bool x63_16 ∧ Aside0 (gantletref06_Get.j2 kq a0 a1 xt14 (wrap64 ((wrap64 (bt a0 a1)) - 128)) x63_16 = some (r1, r2, r3)) ∧ Aside0 (kq ≤ kj10) ∧ Drawn0 w wc)
               case first =>
                have H := HC17.out
                clear HC17
                by_cases c18 : (xt14.size : Int) > 0
                ·
                 rw [if_pos c18] at H
                 have c18b0 : decide (0 < (xt14.size : Int)) = true := decide_eq_true c18
                 have c18b1 : decide (0 < xt14.size) = true := decide_eq_true (by omega)
                 clear c18
                 (first | rw [c18b0] | (simp only [i64_w, i32_w]; rw [c18b0]) | skip)
                 by_cases c19 : 0 < (xt14.size : Int)
                 ·
                  rw [if_pos c19] at H
                  have c19b0 : decide (0 < (xt14.size : Int)) = true := decide_eq_true c19
                  have c19b1 : decide (0 < xt14.size) = true := decide_eq_true (by omega)
                  clear c19
                  by_cases c21 : (bt xt14 0) = 0
                  ·
                   rw [if_pos c21] at H
                   have c21b0 : ((bt xt14 0) == 0) = true := beq_iff_eq.mpr c21
                   have c21b1 : ((bt xt14 0) != 0) = false := bne_eq_false_iff_eq.mpr c21
                   clear c21
                   have H' := Aside0.mk H
                   clear H
                   have p20 : 0 ≤ (0 : Int) := (by omega)
                   have q20 : 0 < xt14.size := (by have : (0 : Int) < (xt14.size : Int) := of_decide_eq_true (by first | (with_reducible assumption) | assumption); omega)
                   have hx20 : ∀ h : 0 < xt14.size, ((xt14[0]'h).toNat : Int) = bt xt14 0 := bt_at xt14 0
                   clear p20
                   have qi20 : (0 < (xt14.size : Int)) = True := eq_true (of_decide_eq_true (by first | (with_reducible assumption) | assumption))
                   replace q20 := eq_true q20
                   go_wp2
                   go_meet
                   case rel => exact ⟨_, (true), (by first | rfl | (simp; done) | (simp [*]; done) | (simp [show ∀ l : List UInt8, (!l.isEmpty) = (l != []) from fun l => by cases l <;> rfl]; done)), H', ⟨by have := HJ2.out; have := HJ10.out; first | omega | exact Nat.le_refl _⟩, by repeat (first | exact Drawn0.refl _ | apply Drawn0.step)⟩
                  ·
                   rw [if_neg c21] at H
                   have c21b0 : ((bt xt14 0) == 0) = false := beq_eq_false_iff_ne.mpr c21
                   have c21b1 : ((bt xt14 0) != 0) = true := bne_iff_ne.mpr c21
                   by_cases c22 : (wrap64 ((wrap64 (bt a0 a1)) - 128)) = 1
                   ·
                    rw [if_pos c22] at H
                    have c22b0 : ((wrap64 ((wrap64 (bt a0 a1)) - 128)) == 1) = true := beq_iff_eq.mpr c22
                    have c22b1 : ((wrap64 ((wrap64 (bt a0 a1)) - 128)) != 1) = false := bne_eq_false_iff_eq.mpr c22
                    clear c22
                    have H' := Aside0.mk H
                    clear H
                    have p20 : 0 ≤ (0 : Int) := (by omega)
                    have q20 : 0 < xt14.size := (by have : (0 : Int) < (xt14.size : Int) := of_decide_eq_true (by first | (with_reducible assumption) | assumption); omega)
                    have hx20 : ∀ h : 0 < xt14.size, ((xt14[0]'h).toNat : Int) = bt xt14 0 := bt_at xt14 0
                    clear p20
                    have qi20 : (0 < (xt14.size : Int)) = True := eq_true (of_decide_eq_true (by first | (with_reducible assumption) | assumption))
                    replace q20 := eq_true q20
                    have p23 : 0 ≤ (0 : Int) := (by omega)
                    have q23 : 0 < xt14.size := (by have : (0 : Int) < (xt14.size : Int) := of_decide_eq_true (by first | (with_reducible assumption) | assumption); omega)
                    have hx23 : ∀ h : 0 < xt14.size, ((xt14[0]'h).toNat : Int) = bt xt14 0 := bt_at xt14 0
                    clear p23
                    have qi23 : (0 < (xt14.size : Int)) = True := eq_true (of_decide_eq_true (by first | (with_reducible assumption) | assumption))
                    replace q23 := eq_true q23
                    go_wp2
                    go_meet
                    case rel => exact ⟨_, (decide ((bt xt14 0) < 128)), (by first | rfl | (simp; done) | (simp only [← hji14] <;> (first | rfl | simp)) | (simp [*]; done)), H', ⟨by have := HJ2.out; have := HJ10.out; first | omega | exact Nat.le_refl _⟩, by repeat (first | exact Drawn0.refl _ | apply Drawn0.step)⟩
                   ·
                    rw [if_neg c22] at H
                    have c22b0 : ((wrap64 ((wrap64 (bt a0 a1)) - 128)) == 1) = false := beq_eq_false_iff_ne.mpr c22
                    have c22b1 : ((wrap64 ((wrap64 (bt a0 a1)) - 128)) != 1) = true := bne_iff_ne.mpr c22
                    have H' := Aside0.mk H
                    clear H
                    have p20 : 0 ≤ (0 : Int) := (by omega)
                    have q20 : 0 < xt14.size := (by have : (0 : Int) < (xt14.size : Int) := of_decide_eq_true (by first | (with_reducible assumption) | assumption); omega)
                    have hx20 : ∀ h : 0 < xt14.size, ((xt14[0]'h).toNat : Int) = bt xt14 0 := bt_at xt14 0
                    clear p20
                    have qi20 : (0 < (xt14.size : Int)) = True := eq_true (of_decide_eq_true (by first | (with_reducible assumption) | assumption))
                    replace q20 := eq_true q20
                    go_wp2
                    go_meet
                    case rel => exact ⟨_, (false), (by first | rfl | (simp; done) | (simp [*]; done) | (simp [show ∀ l : List UInt8, (!l.isEmpty) = (l != []) from fun l => by cases l <;> rfl]; done)), H', ⟨by have := HJ2.out; have := HJ10.out; first | omega | exact Nat.le_refl _⟩, by repeat (first | exact Drawn0.refl _ | apply Drawn0.step)⟩
                 ·
                  rw [if_neg c19] at H
                  exact absurd H (by simp)
                ·
                 rw [if_neg c18] at H
                 have c18b0 : decide (0 < (xt14.size : Int)) = false := decide_eq_false c18
                 have c18b1 : decide (0 < xt14.size) = false := decide_eq_false (by omega)
                 clear c18
                 (first | rw [c18b0] | (simp only [i64_w, i32_w]; rw [c18b0]) | skip)
                 have H' := Aside0.mk H
                 clear H
                 go_wp2
                 go_meet
                 case rel => exact ⟨_, (false), (by first | rfl | (simp; done) | (simp [*]; done) | (simp [show ∀ l : List UInt8, (!l.isEmpty) = (l != []) from fun l => by cases l <;> rfl]; done)), H', ⟨by have := HJ2.out; have := HJ10.out; first | omega | exact Nat.le_refl _⟩, by repeat (first | exact Drawn0.refl _ | apply Drawn0.step)⟩
               case rest =>
                clear HC17
                try clear c1
                try clear c2
                try clear p2
                try clear q2
                try clear hx2
                try clear qi2
                try clear c4
                try clear c4b0
                try clear c5
                try clear c6
                try clear c6b0
                try clear c6b1
                try clear p6
                try clear c7
                try clear c7b0
                try clear c8
                try clear c8b0
                try clear p9
                try clear q9
                try clear hx9
                try clear c10
                try clear c10b0
                try clear c12
                try clear c12b0
                try clear c12b1
                try clear c13
                try clear c15
                try clear c15b0
                try clear c15b1
                try clear c16
                try clear c16b0
                try clear c16b1
                try clear c18
                try clear c18b0
                try clear c18b1
                try clear c19
                try clear c19b0
                try clear c19b1
                try clear p20
                try clear q20
                try clear hx20
                try clear qi20
                try clear c21
                try clear c21b0
                try clear c21b1
                try clear c22
                try clear c22b0
                try clear c22b1
                try clear p23
                try clear q23
                try clear hx23
                try clear qi23
                try clear p2
                try clear p20
                try clear p23
                try clear p6
                try clear p9
                try clear q20
                try clear q23
                try clear q9
                obtain ⟨kq, x63_16, rfl, HA, HJ16, ⟨mc16, rfl⟩⟩ := hcut
                cases kq with
                | zero => exact absurd HA.out (by simp [gantletref06_Get.j2])
                | succ kj16 =>
                  have H := HA.out
                  clear HA
                  simp only [gantletref06_Get.j2] at H
                  by_cases c24 : x63_16 = true
                  ·
                   subst c24
                   have H1 : (some (0, wrap64 (a1 + 1), 4)) = some (r1, r2, r3) := by rw [if_pos rfl] at H; exact H
                   clear H
                   have H := H1
                   clear H1
                   simp only [Option.some.injEq, Prod.mk.injEq] at H
                   obtain ⟨rfl, rfl, rfl⟩ := H
                   go_wp2
                   go_ret3
                   exact ⟨by first | rfl | (simp; done) | (simp only [← hji14] <;> (first | rfl | simp)) | (simp [*]; done), by repeat (first | exact Drawn0.refl _ | apply Drawn0.step)⟩
                  ·
                   replace c24 := Bool.eq_false_iff.mpr c24
                   subst c24
                   have H1 : (if (xt14.size : Int) < (wrap64 ((wrap64 (bt a0 a1)) - 128)) then (some (0, (a0.size : Int), 2)) else (gantletref06_Get.l0 kj16 a1 xt14 (wrap64 ((wrap64 (bt a0 a1)) - 128)) 0 0)) = some (r1, r2, r3) := by rw [if_neg (show ¬ (false = true) by decide)] at H; exact H
                   clear H
                   have H := H1
                   clear H1
                   by_cases c25 : (xt14.size : Int) < (wrap64 ((wrap64 (bt a0 a1)) - 128))
                   ·
                    rw [if_pos c25] at H
                    have c25b0 : decide ((xt14.size : Int) < (wrap64 ((wrap64 (bt a0 a1)) - 128))) = true := decide_eq_true c25
                    clear c25
                    simp only [Option.some.injEq, Prod.mk.injEq] at H
                    obtain ⟨rfl, rfl, rfl⟩ := H
                    go_wp2
                    go_ret3
                    exact ⟨by first | rfl | (simp; done) | (simp only [← hji14] <;> (first | rfl | simp)) | (simp [*]; done), by repeat (first | exact Drawn0.refl _ | apply Drawn0.step)⟩
                   ·
                    rw [if_neg c25] at H
                    have c25b0 : decide ((xt14.size : Int) < (wrap64 ((wrap64 (bt a0 a1)) - 128))) = false := decide_eq_false c25
                    clear c25
                    have H' := Aside0.mk H
                    clear H
                    go_wp2
                    go_loopg [10, 11] kj16 (fun kq v10 v11 w' => ∃ (x10_4 : Int) (x11_4 : Int), v10 = .int .i64 x10_4 ∧ v11 = .int .i64 x11_4 ∧ Aside0 (gantletref06_Get.l0 kq a1 xt14 (wrap64 ((wrap64 (bt a0 a1)) - 128)) x10_4 x11_4 = some (r1, r2, r3)) ∧ Aside0 (kq ≤ kj16) ∧ Drawn0 w w')
                    case atStart => exact ⟨(0), (0), (by first | rfl | (simp; done) | (simp [*]; done) | (simp [show ∀ l : List UInt8, (!l.isEmpty) = (l != []) from fun l => by cases l <;> rfl]; done)), (by first | rfl | (simp; done) | (simp [*]; done) | (simp [show ∀ l : List UInt8, (!l.isEmpty) = (l != []) from fun l => by cases l <;> rfl]; done)), H', ⟨Nat.le_refl _⟩, by repeat (first | exact Drawn0.refl _ | apply Drawn0.step)⟩
                    case round =>
                     clear H'
                     try clear c1
                     try clear c2
                     try clear p2
                     try clear q2
                     try clear hx2
                     try clear qi2
                     try clear c4
                     try clear c4b0
                     try clear c5
                     try clear c6
                     try clear c6b0
                     try clear c6b1
                     try clear p6
                     try clear c7
                     try clear c7b0
                     try clear c8
                     try clear c8b0
                     try clear p9
                     try clear q9
                     try clear hx9
                     try clear c10
                     try clear c10b0
                     try clear c12
                     try clear c12b0
                     try clear c12b1
                     try clear c13
                     try clear c15
                     try clear c15b0
                     try clear c15b1
                     try clear c16
                     try clear c16b0
                     try clear c16b1
                     try clear c18
                     try clear c18b0
                     try clear c18b1
                     try clear c19
                     try clear c19b0
                     try clear c19b1
                     try clear p20
                     try clear q20
                     try clear hx20
                     try clear qi20
                     try clear c21
                     try clear c21b0
                     try clear c21b1
                     try clear c22
                     try clear c22b0
                     try clear c22b1
                     try clear p23
                     try clear q23
                     try clear hx23
                     try clear qi23
                     try clear c24
                     try clear c25
                     try clear c25b0
                     try clear p2
                     try clear p20
                     try clear p23
                     try clear p6
                     try clear p9
                     try clear q2
                     try clear q20
                     try clear q23
                     try clear q9
                     obtain ⟨x10_4, x11_4, rfl, rfl, HA, HK4, ⟨m4, rfl⟩⟩ := hrel
                     cases gk with
                     | zero => exact absurd HA.out (by simp [gantletref06_Get.l0])
                     | succ k4 =>
                       have H := HA.out
                       clear HA
                       simp only [gantletref06_Get.l0] at H
                       by_cases c26 : x11_4 < (wrap64 ((wrap64 (bt a0 a1)) - 128))
                       ·
                        rw [if_pos c26] at H
                        have c26b0 : decide (x11_4 < (wrap64 ((wrap64 (bt a0 a1)) - 128))) = true := decide_eq_true c26
                        clear c26
                        by_cases c27 : x10_4 > 9007199254740991
                        ·
                         rw [if_pos c27] at H
                         have c27b0 : decide (9007199254740991 < x10_4) = true := decide_eq_true c27
                         clear c27
                         simp only [Option.some.injEq, Prod.mk.injEq] at H
                         obtain ⟨rfl, rfl, rfl⟩ := H
                         go_wp2
                         go_ret3
                         exact ⟨by first | rfl | (simp; done) | (simp only [← hji14] <;> (first | rfl | simp)) | (simp [*]; done), by repeat (first | exact Drawn0.refl _ | apply Drawn0.step)⟩
                        ·
                         rw [if_neg c27] at H
                         have c27b0 : decide (9007199254740991 < x10_4) = false := decide_eq_false c27
                         clear c27
                         by_cases c28 : x10_4 = 9007199254740991
                         ·
                          rw [if_pos c28] at H
                          have c28b0 : (x10_4 == 9007199254740991) = true := beq_iff_eq.mpr c28
                          have c28b1 : (x10_4 != 9007199254740991) = false := bne_eq_false_iff_eq.mpr c28
                          clear c28
                          by_cases c29 : 0 ≤ x11_4
                          ·
                           rw [if_pos c29] at H
                           have c29b0 : decide (0 ≤ x11_4) = true := decide_eq_true c29
                           clear c29
                           by_cases c30 : x11_4 < (xt14.size : Int)
                           ·
                            rw [if_pos c30] at H
                            have c30b0 : decide (x11_4 < (xt14.size : Int)) = true := decide_eq_true c30
                            clear c30
                            by_cases c32 : (wrap64 (bt xt14 x11_4)) > 255
                            ·
                             rw [if_pos c32] at H
                             have c32b0 : decide (255 < (wrap64 (bt xt14 x11_4))) = true := decide_eq_true c32
                             (try (have c32w0 : decide (255 < ((bt xt14 x11_4))) = true := by (have hw_ : wrap64 (bt xt14 x11_4) = (bt xt14 x11_4) := by (unfold wrap64; omega)); have hx_ := c32b0; rw [hw_] at hx_; exact hx_))
                             clear c32
                             simp only [Option.some.injEq, Prod.mk.injEq] at H
                             obtain ⟨rfl, rfl, rfl⟩ := H
                             have p31 : 0 ≤ (x11_4 : Int) := of_decide_eq_true (by first | (with_reducible assumption) | assumption)
                             have q31 : x11_4 < (xt14.size : Int) := of_decide_eq_true (by first | (with_reducible assumption) | assumption)
                             have hx31 := bt_at xt14 x11_4
                             replace p31 := eq_true p31
                             replace q31 := eq_true q31
                             go_wp2
                             go_ret3
                             exact ⟨by first | rfl | (simp; done) | (simp only [← hji14] <;> (first | rfl | simp)) | (simp [*]; done), by repeat (first | exact Drawn0.refl _ | apply Drawn0.step)⟩
                            ·
                             rw [if_neg c32] at H
                             have c32b0 : decide (255 < (wrap64 (bt xt14 x11_4))) = false := decide_eq_false c32
                             (try (have c32w0 : decide (255 < ((bt xt14 x11_4))) = false := by (have hw_ : wrap64 (bt xt14 x11_4) = (bt xt14 x11_4) := by (unfold wrap64; omega)); have hx_ := c32b0; rw [hw_] at hx_; exact hx_))
                             clear c32
                             have H' := Aside0.mk H
                             clear H
                             have p31 : 0 ≤ (x11_4 : Int) := of_decide_eq_true (by first | (with_reducible assumption) | assumption)
                             have q31 : x11_4 < (xt14.size : Int) := of_decide_eq_true (by first | (with_reducible assumption) | assumption)
                             have hx31 := bt_at xt14 x11_4
                             replace p31 := eq_true p31
                             replace q31 := eq_true q31
                             have p33 : 0 ≤ (x11_4 : Int) := of_decide_eq_true (by first | (with_reducible assumption) | assumption)
                             have q33 : x11_4 < (xt14.size : Int) := of_decide_eq_true (by first | (with_reducible assumption) | assumption)
                             have hx33 := bt_at xt14 x11_4
                             replace p33 := eq_true p33
                             replace q33 := eq_true q33
                             go_wp2
                             go_roundg k4
                             case measure => have := HJ2.out; have := HJ10.out; have := HJ16.out; have := HK4.out; omega
                             case rel => exact ⟨(wrap64 ((wrap64 (256 * x10_4)) + (wrap64 (bt xt14 x11_4)))), (wrap64 (x11_4 + 1)), (by first | rfl | (simp; done) | (simp only [← hji14] <;> (first | rfl | simp)) | (simp [*]; done)), (by first | rfl | (simp; done) | (simp [*]; done) | (simp [show ∀ l : List UInt8, (!l.isEmpty) = (l != []) from fun l => by cases l <;> rfl]; done)), H', ⟨by have := HJ2.out; have := HJ10.out; have := HJ16.out; have := HK4.out; omega⟩, by repeat (first | exact Drawn0.refl _ | apply Drawn0.step)⟩
                           ·
                            rw [if_neg c30] at H
                            exact absurd H (by simp)
                          ·
                           rw [if_neg c29] at H
                           exact absurd H (by simp)
                         ·
                          rw [if_neg c28] at H
                          have c28b0 : (x10_4 == 9007199254740991) = false := beq_eq_false_iff_ne.mpr c28
                          have c28b1 : (x10_4 != 9007199254740991) = true := bne_iff_ne.mpr c28
                          by_cases c34 : 0 ≤ x11_4
                          ·
                           rw [if_pos c34] at H
                           have c34b0 : decide (0 ≤ x11_4) = true := decide_eq_true c34
                           clear c34
                           by_cases c35 : x11_4 < (xt14.size : Int)
                           ·
                            rw [if_pos c35] at H
                            have c35b0 : decide (x11_4 < (xt14.size : Int)) = true := decide_eq_true c35
                            clear c35
                            have H' := Aside0.mk H
                            clear H
                            have p36 : 0 ≤ (x11_4 : Int) := of_decide_eq_true (by first | (with_reducible assumption) | assumption)
                            have q36 : x11_4 < (xt14.size : Int) := of_decide_eq_true (by first | (with_reducible assumption) | assumption)
                            have hx36 := bt_at xt14 x11_4
                            replace p36 := eq_true p36
                            replace q36 := eq_true q36
                            go_wp2
                            go_roundg k4
                            case measure => have := HJ2.out; have := HJ10.out; have := HJ16.out; have := HK4.out; omega
                            case rel => exact ⟨(wrap64 ((wrap64 (256 * x10_4)) + (wrap64 (bt xt14 x11_4)))), (wrap64 (x11_4 + 1)), (by first | rfl | (simp; done) | (simp only [← hji14] <;> (first | rfl | simp)) | (simp [*]; done)), (by first | rfl | (simp; done) | (simp [*]; done) | (simp [show ∀ l : List UInt8, (!l.isEmpty) = (l != []) from fun l => by cases l <;> rfl]; done)), H', ⟨by have := HJ2.out; have := HJ10.out; have := HJ16.out; have := HK4.out; omega⟩, by repeat (first | exact Drawn0.refl _ | apply Drawn0.step)⟩
                           ·
                            rw [if_neg c35] at H
                            exact absurd H (by simp)
                          ·
                           rw [if_neg c34] at H
                           exact absurd H (by simp)
                       ·
                        rw [if_neg c26] at H
                        have c26b0 : decide (x11_4 < (wrap64 ((wrap64 (bt a0 a1)) - 128))) = false := decide_eq_false c26
                        clear c26
                        by_cases c37 : x10_4 > 2305843009213693951
                        ·
                         rw [if_pos c37] at H
                         have c37b0 : decide (2305843009213693951 < x10_4) = true := decide_eq_true c37
                         clear c37
                         simp only [Option.some.injEq, Prod.mk.injEq] at H
                         obtain ⟨rfl, rfl, rfl⟩ := H
                         go_wp2
                         go_ret3
                         exact ⟨by first | rfl | (simp; done) | (simp only [← hji14] <;> (first | rfl | simp)) | (simp [*]; done), by repeat (first | exact Drawn0.refl _ | apply Drawn0.step)⟩
                        ·
                         rw [if_neg c37] at H
                         have c37b0 : decide (2305843009213693951 < x10_4) = false := decide_eq_false c37
                         clear c37
                         simp only [Option.some.injEq, Prod.mk.injEq] at H
                         obtain ⟨rfl, rfl, rfl⟩ := H
                         go_wp2
                         go_ret3
                         exact ⟨by first | rfl | (simp; done) | (simp only [← hji14] <;> (first | rfl | simp)) | (simp [*]; done), by repeat (first | exact Drawn0.refl _ | apply Drawn0.step)⟩
              ·
               rw [if_neg c16] at H
               exact absurd H (by simp)
             ·
              rw [if_neg c15] at H
              exact absurd H (by simp)
       ·
        rw [if_neg c8] at H
        exact absurd H (by simp)
      ·
       rw [if_neg c7] at H
       exact absurd H (by simp)

end Go.Proofs.Ytomaajagncjiiaa.PC
