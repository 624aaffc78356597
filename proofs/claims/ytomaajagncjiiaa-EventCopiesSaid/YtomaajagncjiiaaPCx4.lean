-- Written by a program of this session (print2, a turned print): not PRINTED BY print.sh
import Derived.Test.YtomaajagncjiiaaPCx0
namespace Go.Proofs.Ytomaajagncjiiaa.PC
open Go.RowKit Go.Proofs.YtomaajagncjiiaaW.PrintWords Go.Proofs.YtomaajagncjiiaaW.PrintLast Go.Proofs.YtomaajagncjiiaaW.PrintMore
attribute [local go_sem] max2_int min2_int max_two min_two max_three min_three max_four min_four   -- for this text's walks alone
set_option linter.unusedVariables false
set_option linter.unusedSimpArgs false

/-! ### length_Get: function 45 -/
mutual
def length_Get.j0 : Nat → ByteArray → Int → Bool → Option (Int × Int × Int)
 | 0, _, _, _ => none
 | k + 1, x0, x1, x19 => if x19 = true then (some (0, 0, 1)) else (if x1 = (x0.size : Int) then (some (0, x1, 2)) else (if 0 ≤ x1 then (if x1 < (x0.size : Int) then (if (wrap64 (bt x0 x1)) < 128 then (some (wrap64 (bt x0 x1), wrap64 (x1 + 1), 0)) else (if (wrap64 ((wrap64 (bt x0 x1)) - 128)) = 0 then (length_Get.j1 k x0 x1 (wrap64 ((wrap64 (bt x0 x1)) - 128)) true) else (length_Get.j1 k x0 x1 (wrap64 ((wrap64 (bt x0 x1)) - 128)) (decide ((wrap64 ((wrap64 (bt x0 x1)) - 128)) > 8))))) else (none)) else (none)))
def length_Get.j1 : Nat → ByteArray → Int → Int → Bool → Option (Int × Int × Int)
 | 0, _, _, _, _ => none
 | k + 1, x0, x1, x8, x41 => if x41 = true then (some (0, x1, 4)) else (length_Get.l0 k x0 x1 x8 0 x8 0)
def length_Get.l0 : Nat → ByteArray → Int → Int → Int → Int → Int → Option (Int × Int × Int)
 | 0, _, _, _, _, _, _ => none
 | k + 1, x0, x1, x8, x9, x43, x44 => if x44 < x43 then (if (wrap64 ((wrap64 (x1 + 1)) + x44)) ≥ (x0.size : Int) then (some (0, (x0.size : Int), 2)) else (if 0 ≤ (wrap64 ((wrap64 (x1 + 1)) + x44)) then (if (wrap64 ((wrap64 (x1 + 1)) + x44)) < (x0.size : Int) then (if x44 = 0 then (if (bt x0 (wrap64 ((wrap64 (x1 + 1)) + x44))) = 0 then (some (0, wrap64 ((wrap64 (x1 + 1)) + x44), 4)) else (if x8 = 1 then (if (bt x0 (wrap64 ((wrap64 (x1 + 1)) + x44))) < 128 then (some (0, wrap64 ((wrap64 (x1 + 1)) + x44), 4)) else (length_Get.l0 k x0 x1 x8 (Go.bits .or .u64 (IntKind.u64.wrap (x9 * 256)) (IntKind.u64.wrap (bt x0 (wrap64 ((wrap64 (x1 + 1)) + x44))))) x43 (wrap64 (x44 + 1)))) else (length_Get.l0 k x0 x1 x8 (Go.bits .or .u64 (IntKind.u64.wrap (x9 * 256)) (IntKind.u64.wrap (bt x0 (wrap64 ((wrap64 (x1 + 1)) + x44))))) x43 (wrap64 (x44 + 1))))) else (length_Get.l0 k x0 x1 x8 (Go.bits .or .u64 (IntKind.u64.wrap (x9 * 256)) (IntKind.u64.wrap (bt x0 (wrap64 ((wrap64 (x1 + 1)) + x44))))) x43 (wrap64 (x44 + 1)))) else (none)) else (none))) else (if x9 > 2305843009213693951 then (some (0, wrap64 (x1 + x8), 4)) else (some (wrap64 (x9), wrap64 ((wrap64 (x1 + 1)) + x8), 0)))
end
def length_Get.f (k : Nat) (a0 : ByteArray) (a1 : Int) : Option (Int × Int × Int) := if a1 < 0 then (length_Get.j0 k a0 a1 true) else (length_Get.j0 k a0 a1 (decide (a1 > (a0.size : Int))))
theorem length_Get.mono_l : ∀ k, (∀ y0 y1 y2, LeO (length_Get.j0 k y0 y1 y2) (length_Get.j0 (k + 1) y0 y1 y2)) ∧ (∀ y0 y1 y2 y3, LeO (length_Get.j1 k y0 y1 y2 y3) (length_Get.j1 (k + 1) y0 y1 y2 y3)) ∧ (∀ y0 y1 y2 y3 y4 y5, LeO (length_Get.l0 k y0 y1 y2 y3 y4 y5) (length_Get.l0 (k + 1) y0 y1 y2 y3 y4 y5))
 | 0 => ⟨fun _ _ _ r h => by simp [length_Get.j0] at h, fun _ _ _ _ r h => by simp [length_Get.j1] at h, fun _ _ _ _ _ _ r h => by simp [length_Get.l0] at h⟩
 | k + 1 => by
   obtain ⟨ih0, ih1, ih2⟩ := length_Get.mono_l k
   refine ⟨?_, ?_, ?_⟩
   ·
    intro y0 y1 y2
    unfold length_Get.j0
    repeat' first
    | (with_reducible exact ih0 _ _ _)
    | (with_reducible exact ih1 _ _ _ _)
    | (with_reducible exact ih2 _ _ _ _ _ _)
    | (with_reducible exact LeO.refl _)
    | (with_reducible exact LeO.none _)
    | (with_reducible refine LeO.ite ?_ ?_)
    | (with_reducible refine LeO.bind ?_ (fun _ => ?_))
    | exact ih0 _ _ _
    | exact ih1 _ _ _ _
    | exact ih2 _ _ _ _ _ _
    | exact LeO.none _
    | refine LeO.ite ?_ ?_
    | refine LeO.bind ?_ (fun _ => ?_)
   ·
    intro y0 y1 y2 y3
    unfold length_Get.j1
    repeat' first
    | (with_reducible exact ih0 _ _ _)
    | (with_reducible exact ih1 _ _ _ _)
    | (with_reducible exact ih2 _ _ _ _ _ _)
    | (with_reducible exact LeO.refl _)
    | (with_reducible exact LeO.none _)
    | (with_reducible refine LeO.ite ?_ ?_)
    | (with_reducible refine LeO.bind ?_ (fun _ => ?_))
    | exact ih0 _ _ _
    | exact ih1 _ _ _ _
    | exact ih2 _ _ _ _ _ _
    | exact LeO.none _
    | refine LeO.ite ?_ ?_
    | refine LeO.bind ?_ (fun _ => ?_)
   ·
    intro y0 y1 y2 y3 y4 y5
    unfold length_Get.l0
    repeat' first
    | (with_reducible exact ih0 _ _ _)
    | (with_reducible exact ih1 _ _ _ _)
    | (with_reducible exact ih2 _ _ _ _ _ _)
    | (with_reducible exact LeO.refl _)
    | (with_reducible exact LeO.none _)
    | (with_reducible refine LeO.ite ?_ ?_)
    | (with_reducible refine LeO.bind ?_ (fun _ => ?_))
    | exact ih0 _ _ _
    | exact ih1 _ _ _ _
    | exact ih2 _ _ _ _ _ _
    | exact LeO.none _
    | refine LeO.ite ?_ ?_
    | refine LeO.bind ?_ (fun _ => ?_)
theorem length_Get.mono : ∀ a0 a1 k, LeO (length_Get.f k a0 a1) (length_Get.f (k + 1) a0 a1) := by
 intro a0 a1 k
 obtain ⟨ih0, ih1, ih2⟩ := length_Get.mono_l k
 unfold length_Get.f
 repeat' first
  | (with_reducible exact ih0 _ _ _)
  | (with_reducible exact ih1 _ _ _ _)
  | (with_reducible exact ih2 _ _ _ _ _ _)
  | (with_reducible exact LeO.refl _)
  | (with_reducible exact LeO.none _)
  | (with_reducible refine LeO.ite ?_ ?_)
  | (with_reducible refine LeO.bind ?_ (fun _ => ?_))
  | exact ih0 _ _ _
  | exact ih1 _ _ _ _
  | exact ih2 _ _ _ _ _ _
  | exact LeO.none _
  | refine LeO.ite ?_ ?_
  | refine LeO.bind ?_ (fun _ => ?_)
set_option maxHeartbeats 8000000 in
set_option maxRecDepth 100000 in
theorem length_Get.calls (k : Nat) (a0 : ByteArray) (a1 : Int) (r1 : Int) (r2 : Int) (r3 : Int) (w : World) (h : length_Get.f k a0 a1 = some (r1, r2, r3)) :
 Calls Try.prog 45 #[.string a0, .int .i64 a1] w fun e w' => e = .returned (.tuple #[.int .i64 r1, .int .i64 r2, .int .i64 r3]) ∧ Drawn0 w w' := by
 have H : (if a1 < 0 then (length_Get.j0 k a0 a1 true) else (length_Get.j0 k a0 a1 (decide (a1 > (a0.size : Int))))) = some (r1, r2, r3) := h
 clear h
 have HC3 := Aside0.mk H
 clear H
 go_enter Try.func45, Try.ntmps45
 go_upto_region 1 with (fail)
 go_cut [19] (fun v19 wc => ∃ (kq : Nat) (x19_2 : Bool), v19 = .bool x19_2 ∧ Aside0 (length_Get.j0 kq a0 a1 x19_2 = some (r1, r2, r3)) ∧ Aside0 (kq ≤ k) ∧ Drawn0 w wc)
 case first =>
  have H := HC3.out
  clear HC3
  by_cases c4 : a1 < 0
  ·
   rw [if_pos c4] at H
   have c4b0 : decide (a1 < 0) = true := decide_eq_true c4
   clear c4
   (first | rw [c4b0] | (simp only [i64_w, i32_w]; rw [c4b0]) | skip)
   have H' := Aside0.mk H
   clear H
   go_wp2
   go_meet
   case rel => exact ⟨_, (true), (by first | rfl | (simp; done) | (simp [*]; done) | (simp [show ∀ l : List UInt8, (!l.isEmpty) = (l != []) from fun l => by cases l <;> rfl]; done)), H', ⟨by first | omega | exact Nat.le_refl _⟩, by repeat (first | exact Drawn0.refl _ | apply Drawn0.step)⟩
  ·
   rw [if_neg c4] at H
   have c4b0 : decide (a1 < 0) = false := decide_eq_false c4
   clear c4
   (first | rw [c4b0] | (simp only [i64_w, i32_w]; rw [c4b0]) | skip)
   have H' := Aside0.mk H
   clear H
   go_wp2
   go_meet
   case rel => exact ⟨_, (decide (a1 > (a0.size : Int))), (by first | rfl | (simp; done) | (simp [*]; done) | (simp [show ∀ l : List UInt8, (!l.isEmpty) = (l != []) from fun l => by cases l <;> rfl]; done)), H', ⟨by first | omega | exact Nat.le_refl _⟩, by repeat (first | exact Drawn0.refl _ | apply Drawn0.step)⟩
 case rest =>
  clear HC3
  try clear p2
  try clear c4
  try clear c4b0
  obtain ⟨kq, x19_2, rfl, HA, HJ2, ⟨mc2, rfl⟩⟩ := hcut
  cases kq with
  | zero => exact absurd HA.out (by simp [length_Get.j0])
  | succ kj2 =>
    have H := HA.out
    clear HA
    simp only [length_Get.j0] at H
    by_cases c5 : x19_2 = true
    ·
     subst c5
     have H1 : (some (0, 0, 1)) = some (r1, r2, r3) := by rw [if_pos rfl] at H; exact H
     clear H
     have H := H1
     clear H1
     simp only [Option.some.injEq, Prod.mk.injEq] at H
     obtain ⟨rfl, rfl, rfl⟩ := H
     go_wp2
     go_ret3
     exact ⟨by first | rfl | (simp; done) | (simp [*]; done) | (simp [show ∀ l : List UInt8, (!l.isEmpty) = (l != []) from fun l => by cases l <;> rfl]; done), by repeat (first | exact Drawn0.refl _ | apply Drawn0.step)⟩
    ·
     replace c5 := Bool.eq_false_iff.mpr c5
     subst c5
     have H1 : (if a1 = (a0.size : Int) then (some (0, a1, 2)) else (if 0 ≤ a1 then (if a1 < (a0.size : Int) then (if (wrap64 (bt a0 a1)) < 128 then (some (wrap64 (bt a0 a1), wrap64 (a1 + 1), 0)) else (if (wrap64 ((wrap64 (bt a0 a1)) - 128)) = 0 then (length_Get.j1 kj2 a0 a1 (wrap64 ((wrap64 (bt a0 a1)) - 128)) true) else (length_Get.j1 kj2 a0 a1 (wrap64 ((wrap64 (bt a0 a1)) - 128)) (decide ((wrap64 ((wrap64 (bt a0 a1)) - 128)) > 8))))) else (none)) else (none))) = some (r1, r2, r3) := by rw [if_neg (show ¬ (false = true) by decide)] at H; exact H
     clear H
     have H := H1
     clear H1
     by_cases c6 : a1 = (a0.size : Int)
     ·
      rw [if_pos c6] at H
      have c6b0 : (a1 == (a0.size : Int)) = true := beq_iff_eq.mpr c6
      have c6b1 : (a1 != (a0.size : Int)) = false := bne_eq_false_iff_eq.mpr c6
      clear c6
      simp only [Option.some.injEq, Prod.mk.injEq] at H
      obtain ⟨rfl, rfl, rfl⟩ := H
      go_wp2
      go_ret3
      exact ⟨by first | rfl | (simp; done) | (simp [*]; done) | (simp [show ∀ l : List UInt8, (!l.isEmpty) = (l != []) from fun l => by cases l <;> rfl]; done), by repeat (first | exact Drawn0.refl _ | apply Drawn0.step)⟩
     ·
      rw [if_neg c6] at H
      have c6b0 : (a1 == (a0.size : Int)) = false := beq_eq_false_iff_ne.mpr c6
      have c6b1 : (a1 != (a0.size : Int)) = true := bne_iff_ne.mpr c6
      by_cases c7 : 0 ≤ a1
      ·
       rw [if_pos c7] at H
       have c7b0 : decide (0 ≤ a1) = true := decide_eq_true c7
       clear c7
       by_cases c8 : a1 < (a0.size : Int)
       ·
        rw [if_pos c8] at H
        have c8b0 : decide (a1 < (a0.size : Int)) = true := decide_eq_true c8
        clear c8
        by_cases c10 : (wrap64 (bt a0 a1)) < 128
        ·
         rw [if_pos c10] at H
         have c10b0 : decide ((wrap64 (bt a0 a1)) < 128) = true := decide_eq_true c10
         clear c10
         simp only [Option.some.injEq, Prod.mk.injEq] at H
         obtain ⟨rfl, rfl, rfl⟩ := H
         have p9 : 0 ≤ (a1 : Int) := of_decide_eq_true (by first | (with_reducible assumption) | assumption)
         have q9 : a1 < (a0.size : Int) := of_decide_eq_true (by first | (with_reducible assumption) | assumption)
         have hx9 := bt_at a0 a1
         replace p9 := eq_true p9
         replace q9 := eq_true q9
         go_wp2
         go_ret3
         exact ⟨by first | rfl | (simp; done) | (simp [*]; done) | (simp [show ∀ l : List UInt8, (!l.isEmpty) = (l != []) from fun l => by cases l <;> rfl]; done), by repeat (first | exact Drawn0.refl _ | apply Drawn0.step)⟩
        ·
         rw [if_neg c10] at H
         have c10b0 : decide ((wrap64 (bt a0 a1)) < 128) = false := decide_eq_false c10
         clear c10
         have HC11 := Aside0.mk H
         clear H
         have p9 : 0 ≤ (a1 : Int) := of_decide_eq_true (by first | (with_reducible assumption) | assumption)
         have q9 : a1 < (a0.size : Int) := of_decide_eq_true (by first | (with_reducible assumption) | assumption)
         have hx9 := bt_at a0 a1
         replace p9 := eq_true p9
         replace q9 := eq_true q9
         go_upto_region 9 with (fail)
         go_cut [41] (fun v41 wc => ∃ (kq : Nat) (x41_10 : Bool), v41 = .bool x41_10 ∧ Aside0 (length_Get.j1 kq a0 a1 (wrap64 ((wrap64 (bt a0 a1)) - 128)) x41_10 = some (r1, r2, r3)) ∧ Aside0 (kq ≤ kj2) ∧ Drawn0 w wc)
         case first =>
          have H := HC11.out
          clear HC11
          by_cases c12 : (wrap64 ((wrap64 (bt a0 a1)) - 128)) = 0
          ·
           rw [if_pos c12] at H
           have c12b0 : ((wrap64 ((wrap64 (bt a0 a1)) - 128)) == 0) = true := beq_iff_eq.mpr c12
           have c12b1 : ((wrap64 ((wrap64 (bt a0 a1)) - 128)) != 0) = false := bne_eq_false_iff_eq.mpr c12
           clear c12
           (first | rw [c12b0] | (simp only [i64_w, i32_w]; rw [c12b0]) | skip)
           have H' := Aside0.mk H
           clear H
           go_wp2
           go_meet
           case rel => exact ⟨_, (true), (by first | rfl | (simp; done) | (simp [*]; done) | (simp [show ∀ l : List UInt8, (!l.isEmpty) = (l != []) from fun l => by cases l <;> rfl]; done)), H', ⟨by have := HJ2.out; first | omega | exact Nat.le_refl _⟩, by repeat (first | exact Drawn0.refl _ | apply Drawn0.step)⟩
          ·
           rw [if_neg c12] at H
           have c12b0 : ((wrap64 ((wrap64 (bt a0 a1)) - 128)) == 0) = false := beq_eq_false_iff_ne.mpr c12
           have c12b1 : ((wrap64 ((wrap64 (bt a0 a1)) - 128)) != 0) = true := bne_iff_ne.mpr c12
           (first | rw [c12b0] | (simp only [i64_w, i32_w]; rw [c12b0]) | skip)
           have H' := Aside0.mk H
           clear H
           go_wp2
           go_meet
           case rel => exact ⟨_, (decide ((wrap64 ((wrap64 (bt a0 a1)) - 128)) > 8)), (by first | rfl | (simp; done) | (simp [*]; done) | (simp [show ∀ l : List UInt8, (!l.isEmpty) = (l != []) from fun l => by cases l <;> rfl]; done)), H', ⟨by have := HJ2.out; first | omega | exact Nat.le_refl _⟩, by repeat (first | exact Drawn0.refl _ | apply Drawn0.step)⟩
         case rest =>
          clear HC11
          try clear c1
          try clear c2
          try clear p2
          try clear c4
          try clear c4b0
          try clear c5
          try clear c6
          try clear c6b0
          try clear c6b1
          try clear p6
          try clear c7
          try clear c7b0
          try clear c8
          try clear c8b0
          try clear p9
          try clear q9
          try clear hx9
          try clear c10
          try clear c10b0
          try clear c12
          try clear c12b0
          try clear c12b1
          try clear p2
          try clear p9
          try clear q9
          obtain ⟨kq, x41_10, rfl, HA, HJ10, ⟨mc10, rfl⟩⟩ := hcut
          cases kq with
          | zero => exact absurd HA.out (by simp [length_Get.j1])
          | succ kj10 =>
            have H := HA.out
            clear HA
            simp only [length_Get.j1] at H
            by_cases c13 : x41_10 = true
            ·
             subst c13
             have H1 : (some (0, a1, 4)) = some (r1, r2, r3) := by rw [if_pos rfl] at H; exact H
             clear H
             have H := H1
             clear H1
             simp only [Option.some.injEq, Prod.mk.injEq] at H
             obtain ⟨rfl, rfl, rfl⟩ := H
             go_wp2
             go_ret3
             exact ⟨by first | rfl | (simp; done) | (simp [*]; done) | (simp [show ∀ l : List UInt8, (!l.isEmpty) = (l != []) from fun l => by cases l <;> rfl]; done), by repeat (first | exact Drawn0.refl _ | apply Drawn0.step)⟩
            ·
             replace c13 := Bool.eq_false_iff.mpr c13
             subst c13
             have H1 : (length_Get.l0 kj10 a0 a1 (wrap64 ((wrap64 (bt a0 a1)) - 128)) 0 (wrap64 ((wrap64 (bt a0 a1)) - 128)) 0) = some (r1, r2, r3) := by rw [if_neg (show ¬ (false = true) by decide)] at H; exact H
             clear H
             have H := H1
             clear H1
             have H' := Aside0.mk H
             clear H
             go_wp2
             go_loopg [9, 44] kj10 (fun kq v9 v44 w' => ∃ (x9_3 : Int) (x44_3 : Int), v9 = .int .u64 x9_3 ∧ v44 = .int .i64 x44_3 ∧ Aside0 (length_Get.l0 kq a0 a1 (wrap64 ((wrap64 (bt a0 a1)) - 128)) x9_3 (wrap64 ((wrap64 (bt a0 a1)) - 128)) x44_3 = some (r1, r2, r3)) ∧ Aside0 (kq ≤ kj10) ∧ Drawn0 w w')
             case atStart => exact ⟨(0), (0), (by first | rfl | (simp; done) | (simp [*]; done) | (simp [show ∀ l : List UInt8, (!l.isEmpty) = (l != []) from fun l => by cases l <;> rfl]; done)), (by first | rfl | (simp; done) | (simp [*]; done) | (simp [show ∀ l : List UInt8, (!l.isEmpty) = (l != []) from fun l => by cases l <;> rfl]; done)), H', ⟨Nat.le_refl _⟩, by repeat (first | exact Drawn0.refl _ | apply Drawn0.step)⟩
             case round =>
              clear H'
              try clear c1
              try clear c2
              try clear p2
              try clear c4
              try clear c4b0
              try clear c5
              try clear c6
              try clear c6b0
              try clear c6b1
              try clear p6
              try clear c7
              try clear c7b0
              try clear c8
              try clear c8b0
              try clear p9
              try clear q9
              try clear hx9
              try clear c10
              try clear c10b0
              try clear c12
              try clear c12b0
              try clear c12b1
              try clear c13
              try clear p2
              try clear p6
              try clear p9
              try clear q9
              obtain ⟨x9_3, x44_3, rfl, rfl, HA, HK3, ⟨m3, rfl⟩⟩ := hrel
              cases gk with
              | zero => exact absurd HA.out (by simp [length_Get.l0])
              | succ k3 =>
                have H := HA.out
                clear HA
                simp only [length_Get.l0] at H
                by_cases c14 : x44_3 < (wrap64 ((wrap64 (bt a0 a1)) - 128))
                ·
                 rw [if_pos c14] at H
                 have c14b0 : decide (x44_3 < (wrap64 ((wrap64 (bt a0 a1)) - 128))) = true := decide_eq_true c14
                 clear c14
                 by_cases c15 : (wrap64 ((wrap64 (a1 + 1)) + x44_3)) ≥ (a0.size : Int)
                 ·
                  rw [if_pos c15] at H
                  have c15b0 : decide ((a0.size : Int) ≤ (wrap64 ((wrap64 (a1 + 1)) + x44_3))) = true := decide_eq_true c15
                  clear c15
                  simp only [Option.some.injEq, Prod.mk.injEq] at H
                  obtain ⟨rfl, rfl, rfl⟩ := H
                  go_wp2
                  go_ret3
                  exact ⟨by first | rfl | (simp; done) | (simp [*]; done) | (simp [show ∀ l : List UInt8, (!l.isEmpty) = (l != []) from fun l => by cases l <;> rfl]; done), by repeat (first | exact Drawn0.refl _ | apply Drawn0.step)⟩
                 ·
                  rw [if_neg c15] at H
                  have c15b0 : decide ((a0.size : Int) ≤ (wrap64 ((wrap64 (a1 + 1)) + x44_3))) = false := decide_eq_false c15
                  clear c15
                  obtain ⟨ji16, hji16⟩ : ∃ j_ : Int, (wrap64 ((wrap64 (a1 + 1)) + x44_3)) = j_ := ⟨_, rfl⟩
                  replace H : (if 0 ≤ (ji16) then (if (ji16) < (a0.size : Int) then (if x44_3 = 0 then (if (bt a0 (ji16)) = 0 then (some (0, ji16, 4)) else (if (wrap64 ((wrap64 (bt a0 a1)) - 128)) = 1 then (if (bt a0 (ji16)) < 128 then (some (0, ji16, 4)) else (length_Get.l0 k3 a0 a1 (wrap64 ((wrap64 (bt a0 a1)) - 128)) (Go.bits .or .u64 (IntKind.u64.wrap (x9_3 * 256)) (IntKind.u64.wrap (bt a0 (ji16)))) (wrap64 ((wrap64 (bt a0 a1)) - 128)) (wrap64 (x44_3 + 1)))) else (length_Get.l0 k3 a0 a1 (wrap64 ((wrap64 (bt a0 a1)) - 128)) (Go.bits .or .u64 (IntKind.u64.wrap (x9_3 * 256)) (IntKind.u64.wrap (bt a0 (ji16)))) (wrap64 ((wrap64 (bt a0 a1)) - 128)) (wrap64 (x44_3 + 1))))) else (length_Get.l0 k3 a0 a1 (wrap64 ((wrap64 (bt a0 a1)) - 128)) (Go.bits .or .u64 (IntKind.u64.wrap (x9_3 * 256)) (IntKind.u64.wrap (bt a0 (ji16)))) (wrap64 ((wrap64 (bt a0 a1)) - 128)) (wrap64 (x44_3 + 1)))) else (none)) else (none)) = some (r1, r2, r3) := by first | (rw [hji16] at H; exact H) | (simp only [hji16] at H ⊢; exact H)
                  (try rw [hji16] at c15b0)
                  have hji16w : (IntKind.i64.wrap ((wrap64 (a1 + 1)) + x44_3)) = ji16 := (i64_w _).trans hji16
                  by_cases c17 : 0 ≤ (ji16)
                  ·
                   rw [if_pos c17] at H
                   have c17b0 : decide (0 ≤ (ji16)) = true := decide_eq_true c17
                   clear c17
                   by_cases c18 : (ji16) < (a0.size : Int)
                   ·
                    rw [if_pos c18] at H
                    have c18b0 : decide ((ji16) < (a0.size : Int)) = true := decide_eq_true c18
                    clear c18
                    by_cases c20 : x44_3 = 0
                    ·
                     rw [if_pos c20] at H
                     have c20b0 : (x44_3 == 0) = true := beq_iff_eq.mpr c20
                     have c20b1 : (x44_3 != 0) = false := bne_eq_false_iff_eq.mpr c20
                     clear c20
                     by_cases c22 : (bt a0 (ji16)) = 0
                     ·
                      rw [if_pos c22] at H
                      have c22b0 : ((bt a0 (ji16)) == 0) = true := beq_iff_eq.mpr c22
                      have c22b1 : ((bt a0 (ji16)) != 0) = false := bne_eq_false_iff_eq.mpr c22
                      clear c22
                      simp only [Option.some.injEq, Prod.mk.injEq] at H
                      obtain ⟨rfl, rfl, rfl⟩ := H
                      have p19 : 0 ≤ ((ji16) : Int) := of_decide_eq_true (by first | (with_reducible assumption) | assumption)
                      have q19 : (ji16) < (a0.size : Int) := of_decide_eq_true (by first | (with_reducible assumption) | assumption)
                      have hx19 := bt_at a0 (ji16)
                      replace p19 := eq_true p19
                      replace q19 := eq_true q19
                      have p21 : 0 ≤ ((ji16) : Int) := of_decide_eq_true (by first | (with_reducible assumption) | assumption)
                      have q21 : (ji16) < (a0.size : Int) := of_decide_eq_true (by first | (with_reducible assumption) | assumption)
                      have hx21 := bt_at a0 (ji16)
                      replace p21 := eq_true p21
                      replace q21 := eq_true q21
                      go_wp2
                      go_ret3
                      exact ⟨by first | rfl | (simp; done) | (simp only [← hji16] <;> (first | rfl | simp)) | (simp [*]; done), by repeat (first | exact Drawn0.refl _ | apply Drawn0.step)⟩
                     ·
                      rw [if_neg c22] at H
                      have c22b0 : ((bt a0 (ji16)) == 0) = false := beq_eq_false_iff_ne.mpr c22
                      have c22b1 : ((bt a0 (ji16)) != 0) = true := bne_iff_ne.mpr c22
                      by_cases c23 : (wrap64 ((wrap64 (bt a0 a1)) - 128)) = 1
                      ·
                       rw [if_pos c23] at H
                       have c23b0 : ((wrap64 ((wrap64 (bt a0 a1)) - 128)) == 1) = true := beq_iff_eq.mpr c23
                       have c23b1 : ((wrap64 ((wrap64 (bt a0 a1)) - 128)) != 1) = false := bne_eq_false_iff_eq.mpr c23
                       clear c23
                       by_cases c25 : (bt a0 (ji16)) < 128
                       ·
                        rw [if_pos c25] at H
                        have c25b0 : decide ((bt a0 (ji16)) < 128) = true := decide_eq_true c25
                        clear c25
                        simp only [Option.some.injEq, Prod.mk.injEq] at H
                        obtain ⟨rfl, rfl, rfl⟩ := H
                        have p19 : 0 ≤ ((ji16) : Int) := of_decide_eq_true (by first | (with_reducible assumption) | assumption)
                        have q19 : (ji16) < (a0.size : Int) := of_decide_eq_true (by first | (with_reducible assumption) | assumption)
                        have hx19 := bt_at a0 (ji16)
                        replace p19 := eq_true p19
                        replace q19 := eq_true q19
                        have p21 : 0 ≤ ((ji16) : Int) := of_decide_eq_true (by first | (with_reducible assumption) | assumption)
                        have q21 : (ji16) < (a0.size : Int) := of_decide_eq_true (by first | (with_reducible assumption) | assumption)
                        have hx21 := bt_at a0 (ji16)
                        replace p21 := eq_true p21
                        replace q21 := eq_true q21
                        have p24 : 0 ≤ ((ji16) : Int) := of_decide_eq_true (by first | (with_reducible assumption) | assumption)
                        have q24 : (ji16) < (a0.size : Int) := of_decide_eq_true (by first | (with_reducible assumption) | assumption)
                        have hx24 := bt_at a0 (ji16)
                        replace p24 := eq_true p24
                        replace q24 := eq_true q24
                        go_wp2
                        go_ret3
                        exact ⟨by first | rfl | (simp; done) | (simp only [← hji16] <;> (first | rfl | simp)) | (simp [*]; done), by repeat (first | exact Drawn0.refl _ | apply Drawn0.step)⟩
                       ·
                        rw [if_neg c25] at H
                        have c25b0 : decide ((bt a0 (ji16)) < 128) = false := decide_eq_false c25
                        clear c25
                        have H' := Aside0.mk H
                        clear H
                        have p19 : 0 ≤ ((ji16) : Int) := of_decide_eq_true (by first | (with_reducible assumption) | assumption)
                        have q19 : (ji16) < (a0.size : Int) := of_decide_eq_true (by first | (with_reducible assumption) | assumption)
                        have hx19 := bt_at a0 (ji16)
                        replace p19 := eq_true p19
                        replace q19 := eq_true q19
                        have p21 : 0 ≤ ((ji16) : Int) := of_decide_eq_true (by first | (with_reducible assumption) | assumption)
                        have q21 : (ji16) < (a0.size : Int) := of_decide_eq_true (by first | (with_reducible assumption) | assumption)
                        have hx21 := bt_at a0 (ji16)
                        replace p21 := eq_true p21
                        replace q21 := eq_true q21
                        have p24 : 0 ≤ ((ji16) : Int) := of_decide_eq_true (by first | (with_reducible assumption) | assumption)
                        have q24 : (ji16) < (a0.size : Int) := of_decide_eq_true (by first | (with_reducible assumption) | assumption)
                        have hx24 := bt_at a0 (ji16)
                        replace p24 := eq_true p24
                        replace q24 := eq_true q24
                        go_wp2
                        go_roundg k3
                        case measure => have := HJ2.out; have := HJ10.out; have := HK3.out; omega
                        case rel => exact ⟨(Go.bits .or .u64 (IntKind.u64.wrap (x9_3 * 256)) (IntKind.u64.wrap (bt a0 (ji16)))), (wrap64 (x44_3 + 1)), (by first | rfl | (simp; done) | (simp only [← hji16] <;> (first | rfl | simp)) | (simp [*]; done)), (by first | rfl | (simp; done) | (simp [*]; done) | (simp [show ∀ l : List UInt8, (!l.isEmpty) = (l != []) from fun l => by cases l <;> rfl]; done)), H', ⟨by have := HJ2.out; have := HJ10.out; have := HK3.out; omega⟩, by repeat (first | exact Drawn0.refl _ | apply Drawn0.step)⟩
                      ·
                       rw [if_neg c23] at H
                       have c23b0 : ((wrap64 ((wrap64 (bt a0 a1)) - 128)) == 1) = false := beq_eq_false_iff_ne.mpr c23
                       have c23b1 : ((wrap64 ((wrap64 (bt a0 a1)) - 128)) != 1) = true := bne_iff_ne.mpr c23
                       have H' := Aside0.mk H
                       clear H
                       have p19 : 0 ≤ ((ji16) : Int) := of_decide_eq_true (by first | (with_reducible assumption) | assumption)
                       have q19 : (ji16) < (a0.size : Int) := of_decide_eq_true (by first | (with_reducible assumption) | assumption)
                       have hx19 := bt_at a0 (ji16)
                       replace p19 := eq_true p19
                       replace q19 := eq_true q19
                       have p21 : 0 ≤ ((ji16) : Int) := of_decide_eq_true (by first | (with_reducible assumption) | assumption)
                       have q21 : (ji16) < (a0.size : Int) := of_decide_eq_true (by first | (with_reducible assumption) | assumption)
                       have hx21 := bt_at a0 (ji16)
                       replace p21 := eq_true p21
                       replace q21 := eq_true q21
                       go_wp2
                       go_roundg k3
                       case measure => have := HJ2.out; have := HJ10.out; have := HK3.out; omega
                       case rel => exact ⟨(Go.bits .or .u64 (IntKind.u64.wrap (x9_3 * 256)) (IntKind.u64.wrap (bt a0 (ji16)))), (wrap64 (x44_3 + 1)), (by first | rfl | (simp; done) | (simp only [← hji16] <;> (first | rfl | simp)) | (simp [*]; done)), (by first | rfl | (simp; done) | (simp [*]; done) | (simp [show ∀ l : List UInt8, (!l.isEmpty) = (l != []) from fun l => by cases l <;> rfl]; done)), H', ⟨by have := HJ2.out; have := HJ10.out; have := HK3.out; omega⟩, by repeat (first | exact Drawn0.refl _ | apply Drawn0.step)⟩
                    ·
                     rw [if_neg c20] at H
                     have c20b0 : (x44_3 == 0) = false := beq_eq_false_iff_ne.mpr c20
                     have c20b1 : (x44_3 != 0) = true := bne_iff_ne.mpr c20
                     have H' := Aside0.mk H
                     clear H
                     have p19 : 0 ≤ ((ji16) : Int) := of_decide_eq_true (by first | (with_reducible assumption) | assumption)
                     have q19 : (ji16) < (a0.size : Int) := of_decide_eq_true (by first | (with_reducible assumption) | assumption)
                     have hx19 := bt_at a0 (ji16)
                     replace p19 := eq_true p19
                     replace q19 := eq_true q19
                     go_wp2
                     go_roundg k3
                     case measure => have := HJ2.out; have := HJ10.out; have := HK3.out; omega
                     case rel => exact ⟨(Go.bits .or .u64 (IntKind.u64.wrap (x9_3 * 256)) (IntKind.u64.wrap (bt a0 (ji16)))), (wrap64 (x44_3 + 1)), (by first | rfl | (simp; done) | (simp only [← hji16] <;> (first | rfl | simp)) | (simp [*]; done)), (by first | rfl | (simp; done) | (simp [*]; done) | (simp [show ∀ l : List UInt8, (!l.isEmpty) = (l != []) from fun l => by cases l <;> rfl]; done)), H', ⟨by have := HJ2.out; have := HJ10.out; have := HK3.out; omega⟩, by repeat (first | exact Drawn0.refl _ | apply Drawn0.step)⟩
                   ·
                    rw [if_neg c18] at H
                    exact absurd H (by simp)
                  ·
                   rw [if_neg c17] at H
                   exact absurd H (by simp)
                ·
                 rw [if_neg c14] at H
                 have c14b0 : decide (x44_3 < (wrap64 ((wrap64 (bt a0 a1)) - 128))) = false := decide_eq_false c14
                 clear c14
                 by_cases c26 : x9_3 > 2305843009213693951
                 ·
                  rw [if_pos c26] at H
                  have c26b0 : decide (2305843009213693951 < x9_3) = true := decide_eq_true c26
                  clear c26
                  simp only [Option.some.injEq, Prod.mk.injEq] at H
                  obtain ⟨rfl, rfl, rfl⟩ := H
                  go_wp2
                  go_ret3
                  exact ⟨by first | rfl | (simp; done) | (simp [*]; done) | (simp [show ∀ l : List UInt8, (!l.isEmpty) = (l != []) from fun l => by cases l <;> rfl]; done), by repeat (first | exact Drawn0.refl _ | apply Drawn0.step)⟩
                 ·
                  rw [if_neg c26] at H
                  have c26b0 : decide (2305843009213693951 < x9_3) = false := decide_eq_false c26
                  clear c26
                  simp only [Option.some.injEq, Prod.mk.injEq] at H
                  obtain ⟨rfl, rfl, rfl⟩ := H
                  go_wp2
                  go_ret3
                  exact ⟨by first | rfl | (simp; done) | (simp [*]; done) | (simp [show ∀ l : List UInt8, (!l.isEmpty) = (l != []) from fun l => by cases l <;> rfl]; done), by repeat (first | exact Drawn0.refl _ | apply Drawn0.step)⟩
       ·
        rw [if_neg c8] at H
        exact absurd H (by simp)
      ·
       rw [if_neg c7] at H
       exact absurd H (by simp)

end Go.Proofs.Ytomaajagncjiiaa.PC
