-- Written by a program of this session (print2, a turned print): not PRINTED BY print.sh
import Derived.Test.YtomaajagncjiiaaPCx0
import Derived.Test.YtomaajagncjiiaaPCx1
import Derived.Test.YtomaajagncjiiaaPCx6
namespace Go.Proofs.Ytomaajagncjiiaa.PC
open Go.RowKit Go.Proofs.YtomaajagncjiiaaW.PrintWords Go.Proofs.YtomaajagncjiiaaW.PrintLast Go.Proofs.YtomaajagncjiiaaW.PrintMore
attribute [local go_sem] max2_int min2_int max_two min_two max_three min_three max_four min_four   -- for this text's walks alone
set_option linter.unusedVariables false
set_option linter.unusedSimpArgs false

attribute [local go_sem high] eqA36
/-! ### gantletref09_Same: function 15 -/
def gantletref09_Same.l0 : Nat → List (S36) → List (S36) → Int → Option (Bool)
 | 0, _, _, _ => none
 | k + 1, x0, x1, x5 => if x5 < (x0.length : Int) then (if 0 ≤ x5 then (if x5 < (x1.length : Int) then (if (!(((rd_T36 x0 x5).f0) == ((rd_T36 x1 x5).f0)) || (!(((rd_T36 x0 x5).f1) == ((rd_T36 x1 x5).f1)) || ((!(((rd_T36 x0 x5).f2.f0) == ((rd_T36 x1 x5).f2.f0)) || (!(((rd_T36 x0 x5).f2.f1) == ((rd_T36 x1 x5).f2.f1)) || (!(((rd_T36 x0 x5).f2.f2) == ((rd_T36 x1 x5).f2.f2)) || (!(((rd_T36 x0 x5).f2.f3) == ((rd_T36 x1 x5).f2.f3)))))) || (!(((rd_T36 x0 x5).f3) == ((rd_T36 x1 x5).f3)))))) = true then (some false) else (gantletref09_Same.l0 k x0 x1 (wrap64 (x5 + 1)))) else (none)) else (none)) else (some true)
def gantletref09_Same.f (k : Nat) (l0 : List (S36)) (l1 : List (S36)) : Option (Bool) := if (l0.length : Int) = (l1.length : Int) then (gantletref09_Same.l0 k l0 l1 0) else (some false)
theorem gantletref09_Same.mono_l : ∀ k, (∀ y0 y1 y2, LeO (gantletref09_Same.l0 k y0 y1 y2) (gantletref09_Same.l0 (k + 1) y0 y1 y2))
 | 0 => fun _ _ _ r h => by simp [gantletref09_Same.l0] at h
 | k + 1 => by
   have ih0 := gantletref09_Same.mono_l k
   ·
    intro y0 y1 y2
    unfold gantletref09_Same.l0
    repeat' first
    | (with_reducible exact ih0 _ _ _)
    | (with_reducible exact LeO.refl _)
    | (with_reducible exact LeO.none _)
    | (with_reducible refine LeO.ite ?_ ?_)
    | (with_reducible refine LeO.bind ?_ (fun _ => ?_))
    | exact ih0 _ _ _
    | exact LeO.none _
    | refine LeO.ite ?_ ?_
    | refine LeO.bind ?_ (fun _ => ?_)
theorem gantletref09_Same.mono : ∀ a0 a1 k, LeO (gantletref09_Same.f k a0 a1) (gantletref09_Same.f (k + 1) a0 a1) := by
 intro a0 a1 k
 have ih0 := gantletref09_Same.mono_l k
 unfold gantletref09_Same.f
 repeat' first
  | (with_reducible exact ih0 _ _ _)
  | (with_reducible exact LeO.refl _)
  | (with_reducible exact LeO.none _)
  | (with_reducible refine LeO.ite ?_ ?_)
  | (with_reducible refine LeO.bind ?_ (fun _ => ?_))
  | exact ih0 _ _ _
  | exact LeO.none _
  | refine LeO.ite ?_ ?_
  | refine LeO.bind ?_ (fun _ => ?_)
set_option maxHeartbeats 8000000 in
set_option maxRecDepth 100000 in
theorem gantletref09_Same.calls (k : Nat) (A0 : Option Addr) (c0 : Nat) (l0 : List (S36)) (A1 : Option Addr) (c1 : Nat) (l1 : List (S36)) (r : Bool) (w : World) (hr0 : Kd.C k36 w A0 l0.length l0) (hc0 : l0.length ≤ c0) (hr1 : Kd.C k36 w A1 l1.length l1) (hc1 : l1.length ≤ c1) (h : gantletref09_Same.f k l0 l1 = some r) :
 Calls Try.prog 15 #[.slice A0 l0.length c0, .slice A1 l1.length c1] w fun e w' => e = .returned (.bool r) ∧ Drawn0 w w' := by
 have hu36 := Try.underlying36
 have HR0 := Aside0.mk hr0
 have HC0 := Aside0.mk hc0
 clear hr0 hc0
 have HR1 := Aside0.mk hr1
 have HC1 := Aside0.mk hc1
 clear hr1 hc1
 have H : (if (l0.length : Int) = (l1.length : Int) then (gantletref09_Same.l0 k l0 l1 0) else (some false)) = some r := h
 clear h
 by_cases c3 : (l0.length : Int) = (l1.length : Int)
 ·
  rw [if_pos c3] at H
  have c3b0 : ((l0.length : Int) == (l1.length : Int)) = true := beq_iff_eq.mpr c3
  have c3b1 : ((l0.length : Int) != (l1.length : Int)) = false := bne_eq_false_iff_eq.mpr c3
  have c3b2 : (l0.length == l1.length) = true := by first | simpa using c3 | (simp at c3 ⊢; omega)
  clear c3
  have H' := Aside0.mk H
  clear H
  go_enter Try.func15, Try.ntmps15
  go_wp2
  repeat (go_quiet (fail); try go_wp2)
  go_loopg [5] k (fun kq v5 w' => ∃ (x5_1 : Int), v5 = .int .i64 x5_1 ∧ Aside0 (gantletref09_Same.l0 kq l0 l1 x5_1 = some r) ∧ Aside0 (kq ≤ k) ∧ Drawn0 w w')
  case atStart => exact ⟨(0), (by first | rfl | (simp; done) | (simp [*]; done) | (simp [show ∀ l : List UInt8, (!l.isEmpty) = (l != []) from fun l => by cases l <;> rfl]; done)), H', ⟨Nat.le_refl _⟩, by repeat (first | exact Drawn0.refl _ | apply Drawn0.step)⟩
  case round =>
   clear H'
   try clear c1
   try clear p2
   try clear c3
   try clear c3b0
   try clear c3b1
   try clear c3b2
   obtain ⟨x5_1, rfl, HA, HK1, ⟨m1, rfl⟩⟩ := hrel
   cases gk with
   | zero => exact absurd HA.out (by simp [gantletref09_Same.l0])
   | succ k1 =>
     have H := HA.out
     clear HA
     simp only [gantletref09_Same.l0] at H
     by_cases c4 : x5_1 < (l0.length : Int)
     ·
      rw [if_pos c4] at H
      have c4b0 : decide (x5_1 < (l0.length : Int)) = true := decide_eq_true c4
      clear c4
      by_cases c5 : 0 ≤ x5_1
      ·
       rw [if_pos c5] at H
       have c5b0 : decide (0 ≤ x5_1) = true := decide_eq_true c5
       clear c5
       by_cases c6 : x5_1 < (l1.length : Int)
       ·
        rw [if_pos c6] at H
        have c6b0 : decide (x5_1 < (l1.length : Int)) = true := decide_eq_true c6
        clear c6
        by_cases c7 : (!(((rd_T36 l0 x5_1).f0) == ((rd_T36 l1 x5_1).f0)) || (!(((rd_T36 l0 x5_1).f1) == ((rd_T36 l1 x5_1).f1)) || ((!(((rd_T36 l0 x5_1).f2.f0) == ((rd_T36 l1 x5_1).f2.f0)) || (!(((rd_T36 l0 x5_1).f2.f1) == ((rd_T36 l1 x5_1).f2.f1)) || (!(((rd_T36 l0 x5_1).f2.f2) == ((rd_T36 l1 x5_1).f2.f2)) || (!(((rd_T36 l0 x5_1).f2.f3) == ((rd_T36 l1 x5_1).f2.f3)))))) || (!(((rd_T36 l0 x5_1).f3) == ((rd_T36 l1 x5_1).f3)))))) = true
        ·
         rw [if_pos c7] at H
         have c7b0 : (!(((rd_T36 l0 x5_1).f0) == ((rd_T36 l1 x5_1).f0)) || (!(((rd_T36 l0 x5_1).f1) == ((rd_T36 l1 x5_1).f1)) || ((!(((rd_T36 l0 x5_1).f2.f0) == ((rd_T36 l1 x5_1).f2.f0)) || (!(((rd_T36 l0 x5_1).f2.f1) == ((rd_T36 l1 x5_1).f2.f1)) || (!(((rd_T36 l0 x5_1).f2.f2) == ((rd_T36 l1 x5_1).f2.f2)) || (!(((rd_T36 l0 x5_1).f2.f3) == ((rd_T36 l1 x5_1).f2.f3)))))) || (!(((rd_T36 l0 x5_1).f3) == ((rd_T36 l1 x5_1).f3)))))) = true := c7
         clear c7
         obtain rfl := Option.some.inj H
         have p105 : 0 ≤ (x5_1 : Int) := of_decide_eq_true (by first | (with_reducible assumption) | assumption)
         have q105 : x5_1 < (l0.length : Int) := of_decide_eq_true (by first | (with_reducible assumption) | assumption)
         obtain ⟨ad105, e105, hx105_0, hx105_1, hx105_2, hx105_3, hx105_4, hx105_5, hx105_6⟩ := at_T36 HR0.out x5_1 p105 q105
         cases e105
         replace p105 := eq_true p105
         replace q105 := eq_true q105
         have p106 : 0 ≤ (x5_1 : Int) := of_decide_eq_true (by first | (with_reducible assumption) | assumption)
         have q106 : x5_1 < (l1.length : Int) := of_decide_eq_true (by first | (with_reducible assumption) | assumption)
         obtain ⟨ad106, e106, hx106_0, hx106_1, hx106_2, hx106_3, hx106_4, hx106_5, hx106_6⟩ := at_T36 HR1.out x5_1 p106 q106
         cases e106
         replace p106 := eq_true p106
         replace q106 := eq_true q106
         go_wp2
         repeat (go_quiet (fail); try go_wp2)
         go_ret
         exact ⟨by first | rfl | (simp; done) | (simp [*]; done) | (simp [show ∀ l : List UInt8, (!l.isEmpty) = (l != []) from fun l => by cases l <;> rfl]; done), by repeat (first | exact Drawn0.refl _ | apply Drawn0.step)⟩
        ·
         rw [if_neg c7] at H
         have c7b0 : (!(((rd_T36 l0 x5_1).f0) == ((rd_T36 l1 x5_1).f0)) || (!(((rd_T36 l0 x5_1).f1) == ((rd_T36 l1 x5_1).f1)) || ((!(((rd_T36 l0 x5_1).f2.f0) == ((rd_T36 l1 x5_1).f2.f0)) || (!(((rd_T36 l0 x5_1).f2.f1) == ((rd_T36 l1 x5_1).f2.f1)) || (!(((rd_T36 l0 x5_1).f2.f2) == ((rd_T36 l1 x5_1).f2.f2)) || (!(((rd_T36 l0 x5_1).f2.f3) == ((rd_T36 l1 x5_1).f2.f3)))))) || (!(((rd_T36 l0 x5_1).f3) == ((rd_T36 l1 x5_1).f3)))))) = false := by simpa using c7
         clear c7
         have H' := Aside0.mk H
         clear H
         have p105 : 0 ≤ (x5_1 : Int) := of_decide_eq_true (by first | (with_reducible assumption) | assumption)
         have q105 : x5_1 < (l0.length : Int) := of_decide_eq_true (by first | (with_reducible assumption) | assumption)
         obtain ⟨ad105, e105, hx105_0, hx105_1, hx105_2, hx105_3, hx105_4, hx105_5, hx105_6⟩ := at_T36 HR0.out x5_1 p105 q105
         cases e105
         replace p105 := eq_true p105
         replace q105 := eq_true q105
         have p106 : 0 ≤ (x5_1 : Int) := of_decide_eq_true (by first | (with_reducible assumption) | assumption)
         have q106 : x5_1 < (l1.length : Int) := of_decide_eq_true (by first | (with_reducible assumption) | assumption)
         obtain ⟨ad106, e106, hx106_0, hx106_1, hx106_2, hx106_3, hx106_4, hx106_5, hx106_6⟩ := at_T36 HR1.out x5_1 p106 q106
         cases e106
         replace p106 := eq_true p106
         replace q106 := eq_true q106
         go_wp2
         repeat (go_quiet (fail); try go_wp2)
         go_roundg k1
         case measure => have := HK1.out; omega
         case rel => exact ⟨(wrap64 (x5_1 + 1)), (by first | rfl | (simp; done) | (simp [*]; done) | (simp [show ∀ l : List UInt8, (!l.isEmpty) = (l != []) from fun l => by cases l <;> rfl]; done)), H', ⟨by have := HK1.out; omega⟩, by repeat (first | exact Drawn0.refl _ | apply Drawn0.step)⟩
       ·
        rw [if_neg c6] at H
        exact absurd H (by simp)
      ·
       rw [if_neg c5] at H
       exact absurd H (by simp)
     ·
      rw [if_neg c4] at H
      have c4b0 : decide (x5_1 < (l0.length : Int)) = false := decide_eq_false c4
      clear c4
      obtain rfl := Option.some.inj H
      go_wp2
      repeat (go_quiet (fail); try go_wp2)
      go_ret
      exact ⟨by first | rfl | (simp; done) | (simp [*]; done) | (simp [show ∀ l : List UInt8, (!l.isEmpty) = (l != []) from fun l => by cases l <;> rfl]; done), by repeat (first | exact Drawn0.refl _ | apply Drawn0.step)⟩
 ·
  rw [if_neg c3] at H
  have c3b0 : ((l0.length : Int) == (l1.length : Int)) = false := beq_eq_false_iff_ne.mpr c3
  have c3b1 : ((l0.length : Int) != (l1.length : Int)) = true := bne_iff_ne.mpr c3
  have c3b2 : (l0.length == l1.length) = false := by first | simpa using c3 | (simp at c3 ⊢; omega)
  obtain rfl := Option.some.inj H
  go_enter Try.func15, Try.ntmps15
  go_wp2
  repeat (go_quiet (fail); try go_wp2)
  go_ret
  exact ⟨by first | rfl | (simp; done) | (simp [*]; done) | (simp [show ∀ l : List UInt8, (!l.isEmpty) = (l != []) from fun l => by cases l <;> rfl]; done), by repeat (first | exact Drawn0.refl _ | apply Drawn0.step)⟩

/-! ### gantletlaw09_awake: function 11 -/
def gantletlaw09_awake.f (k : Nat)  : Option (Bool) := (event_Whole.f (⟨#[48, 3, 2, 1, 7]⟩ : ByteArray) 2).bind fun bt107 => ((event_Whole.f (⟨#[48, 2, 2, 1]⟩ : ByteArray) 2).bind fun bt115 => ((event_Whole.f (⟨#[48, 0]⟩ : ByteArray) 0).bind fun bt120 => ((gantletref09_Same.f k bt107.1 (([(⟨1, 1, (⟨0, 16, true, 3⟩ : S34), 0⟩ : S36), (⟨2, 3, (⟨0, 2, false, 1⟩ : S34), 0⟩ : S36), (⟨3, 4, (⟨0, 0, false, 0⟩ : S34), 7⟩ : S36), (⟨4, 4, (⟨0, 0, false, 0⟩ : S34), 0⟩ : S36), (⟨5, 4, (⟨0, 0, false, 0⟩ : S34), 0⟩ : S36)] : List (S36)))).bind fun t125 => (if t125 = true then (if bt107.2.1 = 0 then (if bt107.2.2 = 5 then (if bt115.2.1 = 5 then (if bt115.2.2 = 3 then (if (bt120.1.length : Int) = 0 then (if bt120.2.1 = 10 then (some (bt120.2.2 == 1)) else (none)) else (none)) else (none)) else (none)) else (none)) else (none)) else (none)))))
theorem gantletlaw09_awake.mono : ∀ k, LeO (gantletlaw09_awake.f k ) (gantletlaw09_awake.f (k + 1) ) := by
 intro  k
 unfold gantletlaw09_awake.f
 repeat' first
  | (with_reducible exact gantletref09_Same.mono _ _ _)
  | (with_reducible exact LeO.refl _)
  | (with_reducible exact LeO.none _)
  | (with_reducible refine LeO.ite ?_ ?_)
  | (with_reducible refine LeO.bind ?_ (fun _ => ?_))
  | exact gantletref09_Same.mono _ _ _
  | exact LeO.none _
  | refine LeO.ite ?_ ?_
  | refine LeO.bind ?_ (fun _ => ?_)
set_option maxHeartbeats 8000000 in
set_option maxRecDepth 100000 in
theorem gantletlaw09_awake.calls (k : Nat)  (r : Bool) (w : World) (h : gantletlaw09_awake.f k  = some r) :
 Calls Try.prog 11 #[] w fun e w' => e = .returned (.bool r) ∧ Below w.heap.size w w' := by
 have hu34 := Try.underlying34
 have hu36 := Try.underlying36
 have HB := Aside0.mk (Below.refl w.heap.size w)
 have H : ((event_Whole.f (⟨#[48, 3, 2, 1, 7]⟩ : ByteArray) 2).bind fun bt107 => ((event_Whole.f (⟨#[48, 2, 2, 1]⟩ : ByteArray) 2).bind fun bt115 => ((event_Whole.f (⟨#[48, 0]⟩ : ByteArray) 0).bind fun bt120 => ((gantletref09_Same.f k bt107.1 (([(⟨1, 1, (⟨0, 16, true, 3⟩ : S34), 0⟩ : S36), (⟨2, 3, (⟨0, 2, false, 1⟩ : S34), 0⟩ : S36), (⟨3, 4, (⟨0, 0, false, 0⟩ : S34), 7⟩ : S36), (⟨4, 4, (⟨0, 0, false, 0⟩ : S34), 0⟩ : S36), (⟨5, 4, (⟨0, 0, false, 0⟩ : S34), 0⟩ : S36)] : List (S36)))).bind fun t125 => (if t125 = true then (if bt107.2.1 = 0 then (if bt107.2.2 = 5 then (if bt115.2.1 = 5 then (if bt115.2.2 = 3 then (if (bt120.1.length : Int) = 0 then (if bt120.2.1 = 10 then (some (bt120.2.2 == 1)) else (none)) else (none)) else (none)) else (none)) else (none)) else (none)) else (none)))))) = some r := h
 clear h
 replace H := Option.bind_eq_some_iff.mp H
 obtain ⟨⟨t107, t108, t109⟩, A10, H⟩ := H
 replace H : ((event_Whole.f (⟨#[48, 2, 2, 1]⟩ : ByteArray) 2).bind fun bt115 => ((event_Whole.f (⟨#[48, 0]⟩ : ByteArray) 0).bind fun bt120 => ((gantletref09_Same.f k t107 (([(⟨1, 1, (⟨0, 16, true, 3⟩ : S34), 0⟩ : S36), (⟨2, 3, (⟨0, 2, false, 1⟩ : S34), 0⟩ : S36), (⟨3, 4, (⟨0, 0, false, 0⟩ : S34), 7⟩ : S36), (⟨4, 4, (⟨0, 0, false, 0⟩ : S34), 0⟩ : S36), (⟨5, 4, (⟨0, 0, false, 0⟩ : S34), 0⟩ : S36)] : List (S36)))).bind fun t125 => (if t125 = true then (if t108 = 0 then (if t109 = 5 then (if bt115.2.1 = 5 then (if bt115.2.2 = 3 then (if (bt120.1.length : Int) = 0 then (if bt120.2.1 = 10 then (some (bt120.2.2 == 1)) else (none)) else (none)) else (none)) else (none)) else (none)) else (none)) else (none))))) = some r := H
 have A1 := Aside0.mk A10
 clear A10
 obtain ⟨y112, hy112⟩ : ∃ y_ : List (S36), y_ = (([(⟨1, 1, (⟨0, 16, true, 3⟩ : S34), 0⟩ : S36), (⟨2, 3, (⟨0, 2, false, 1⟩ : S34), 0⟩ : S36), (⟨3, 4, (⟨0, 0, false, 0⟩ : S34), 7⟩ : S36), (⟨4, 4, (⟨0, 0, false, 0⟩ : S34), 0⟩ : S36), (⟨5, 4, (⟨0, 0, false, 0⟩ : S34), 0⟩ : S36)] : List (S36))) := ⟨_, rfl⟩
 replace H : ((event_Whole.f (⟨#[48, 2, 2, 1]⟩ : ByteArray) 2).bind fun bt115 => ((event_Whole.f (⟨#[48, 0]⟩ : ByteArray) 0).bind fun bt120 => ((gantletref09_Same.f k t107 y112).bind fun t125 => (if t125 = true then (if t108 = 0 then (if t109 = 5 then (if bt115.2.1 = 5 then (if bt115.2.2 = 3 then (if (bt120.1.length : Int) = 0 then (if bt120.2.1 = 10 then (some (bt120.2.2 == 1)) else (none)) else (none)) else (none)) else (none)) else (none)) else (none)) else (none))))) = some r := by first | (rw [hy112]; with_reducible exact H) | (have H2_ := (Option.bind_some _ _).symm.trans H; rw [hy112]; with_reducible exact H2_) | (have H2_ := (Option.bind_some _ _).symm.trans H; with_reducible exact H2_) | with_reducible exact H | (rw [hy112]; exact H) | exact H
 have Ny112 := Aside0.mk hy112
 clear hy112
 replace H := Option.bind_eq_some_iff.mp H
 obtain ⟨⟨t115, t116, t117⟩, A20, H⟩ := H
 replace H : ((event_Whole.f (⟨#[48, 0]⟩ : ByteArray) 0).bind fun bt120 => ((gantletref09_Same.f k t107 y112).bind fun t125 => (if t125 = true then (if t108 = 0 then (if t109 = 5 then (if t116 = 5 then (if t117 = 3 then (if (bt120.1.length : Int) = 0 then (if bt120.2.1 = 10 then (some (bt120.2.2 == 1)) else (none)) else (none)) else (none)) else (none)) else (none)) else (none)) else (none)))) = some r := H
 have A2 := Aside0.mk A20
 clear A20
 replace H := Option.bind_eq_some_iff.mp H
 obtain ⟨⟨t120, t121, t122⟩, A30, H⟩ := H
 replace H : ((gantletref09_Same.f k t107 y112).bind fun t125 => (if t125 = true then (if t108 = 0 then (if t109 = 5 then (if t116 = 5 then (if t117 = 3 then (if (t120.length : Int) = 0 then (if t121 = 10 then (some (t122 == 1)) else (none)) else (none)) else (none)) else (none)) else (none)) else (none)) else (none))) = some r := H
 have A3 := Aside0.mk A30
 clear A30
 replace H := Option.bind_eq_some_iff.mp H
 obtain ⟨t125, A40, H⟩ := H
 replace H : (if t125 = true then (if t108 = 0 then (if t109 = 5 then (if t116 = 5 then (if t117 = 3 then (if (t120.length : Int) = 0 then (if t121 = 10 then (some (t122 == 1)) else (none)) else (none)) else (none)) else (none)) else (none)) else (none)) else (none)) = some r := H
 have A4 := Aside0.mk A40
 clear A40
 by_cases c5 : t125 = true
 ·
  subst c5
  have H1 : (if t108 = 0 then (if t109 = 5 then (if t116 = 5 then (if t117 = 3 then (if (t120.length : Int) = 0 then (if t121 = 10 then (some (t122 == 1)) else (none)) else (none)) else (none)) else (none)) else (none)) else (none)) = some r := by rw [if_pos rfl] at H; exact H
  clear H
  have H := H1
  clear H1
  by_cases c6 : t108 = 0
  ·
   rw [if_pos c6] at H
   have c6b0 : (t108 == 0) = true := beq_iff_eq.mpr c6
   have c6b1 : (t108 != 0) = false := bne_eq_false_iff_eq.mpr c6
   clear c6
   by_cases c7 : t109 = 5
   ·
    rw [if_pos c7] at H
    have c7b0 : (t109 == 5) = true := beq_iff_eq.mpr c7
    have c7b1 : (t109 != 5) = false := bne_eq_false_iff_eq.mpr c7
    clear c7
    by_cases c8 : t116 = 5
    ·
     rw [if_pos c8] at H
     have c8b0 : (t116 == 5) = true := beq_iff_eq.mpr c8
     have c8b1 : (t116 != 5) = false := bne_eq_false_iff_eq.mpr c8
     clear c8
     by_cases c9 : t117 = 3
     ·
      rw [if_pos c9] at H
      have c9b0 : (t117 == 3) = true := beq_iff_eq.mpr c9
      have c9b1 : (t117 != 3) = false := bne_eq_false_iff_eq.mpr c9
      clear c9
      by_cases c10 : (t120.length : Int) = 0
      ·
       rw [if_pos c10] at H
       have c10b0 : ((t120.length : Int) == 0) = true := beq_iff_eq.mpr c10
       have c10b1 : ((t120.length : Int) != 0) = false := bne_eq_false_iff_eq.mpr c10
       clear c10
       by_cases c11 : t121 = 10
       ·
        rw [if_pos c11] at H
        have c11b0 : (t121 == 10) = true := beq_iff_eq.mpr c11
        have c11b1 : (t121 != 10) = false := bne_eq_false_iff_eq.mpr c11
        clear c11
        obtain rfl := Option.some.inj H
        go_enter Try.func11, Try.ntmps11
        go_wp2_with (first | ((with_reducible refine gate_callee (f := 13) rfl ?_); refine goesL_ (some 12) rfl rfl Try.func13 (by kernel_rfl) rfl #[.string (⟨#[48, 3, 2, 1, 7]⟩ : ByteArray), .int .i64 2] rfl (by (try simp only [List.map_toArray, List.map_cons, List.map_nil]); first | done | rfl | (simp only [List.length_drop, List.length_take]; rfl)) ?_; (with_reducible refine (event_Whole.calls (⟨#[48, 3, 2, 1, 7]⟩ : ByteArray) 2 t107 t108 t109 _ A1.out).mono ?_); rintro e w12 ⟨v110, rfl, ho0, hb⟩; refine ⟨_, rfl, ?_⟩; have n0_ := Aside0.mk (Kd.R_lower ho0 (below_size (by repeat (first | (with_reducible first | exact HB.out | apply below_alloc | apply pw_below_drewN | apply below_drew1) | exact HB.out)))); have n1_ := Aside0.mk (below_step (by repeat (first | (with_reducible first | exact HB.out | apply below_alloc | apply pw_below_drewN | apply below_drew1) | exact HB.out)) hb); clear HB; have HO111 := n0_; have HB := n1_; clear n0_ n1_; (try clear hb); (try clear hb2); (try clear hk); (try clear hi); (try clear ho0)) | ((with_reducible refine gate_dst (N := 23) rfl ?_); (try (refine gate_guard (by rfl) ?_; dsimp only)); refine Kd.R_lit k36 _ 36 ?hg (N := 23) ?hd (xs := ([(⟨1, 1, (⟨0, 16, true, 3⟩ : S34), 0⟩ : S36), (⟨2, 3, (⟨0, 2, false, 1⟩ : S34), 0⟩ : S36), (⟨3, 4, (⟨0, 0, false, 0⟩ : S34), 7⟩ : S36), (⟨4, 4, (⟨0, 0, false, 0⟩ : S34), 0⟩ : S36), (⟨5, 4, (⟨0, 0, false, 0⟩ : S34), 0⟩ : S36)] : List (S36))) (inner := [.int .i64 1, .int .i64 1, .int .i64 0, .int .i64 16, .bool true, .int .i64 3, .int .u8 0, .int .i64 2, .int .i64 3, .int .i64 0, .int .i64 2, .bool false, .int .i64 1, .int .u8 0, .int .i64 3, .int .i64 4, .int .i64 0, .int .i64 0, .bool false, .int .i64 0, .int .u8 7, .int .i64 4, .int .i64 4, .int .i64 0, .int .i64 0, .bool false, .int .i64 0, .int .u8 0, .int .i64 5, .int .i64 4, .int .i64 0, .int .i64 0, .bool false, .int .i64 0, .int .u8 0]) (ok := fun _ => True) (okp := fun _ => True) ?hr ?hp (fun _ hk => hk) trivial (Below.refl _ _) (Nat.le_refl _) (by simp) ?_; (case hd => rfl); (case hg => rfl); (case hr => first | (go_simp; done) | (go_simp; rfl)); (case hp => exact (Reps.c7 (show Kd.M k36 _ _ _ (⟨1, 1, (⟨0, 16, true, 3⟩ : S34), 0⟩ : S36) [.int .i64 1, .int .i64 1, .int .i64 0, .int .i64 16, .bool true, .int .i64 3, .int .u8 0] from (k36_mkM _ _ _ (⟨1, 1, (⟨0, 16, true, 3⟩ : S34), 0⟩ : S36) )) (Reps.c7 (show Kd.M k36 _ _ _ (⟨2, 3, (⟨0, 2, false, 1⟩ : S34), 0⟩ : S36) [.int .i64 2, .int .i64 3, .int .i64 0, .int .i64 2, .bool false, .int .i64 1, .int .u8 0] from (k36_mkM _ _ _ (⟨2, 3, (⟨0, 2, false, 1⟩ : S34), 0⟩ : S36) )) (Reps.c7 (show Kd.M k36 _ _ _ (⟨3, 4, (⟨0, 0, false, 0⟩ : S34), 7⟩ : S36) [.int .i64 3, .int .i64 4, .int .i64 0, .int .i64 0, .bool false, .int .i64 0, .int .u8 7] from (k36_mkM _ _ _ (⟨3, 4, (⟨0, 0, false, 0⟩ : S34), 7⟩ : S36) )) (Reps.c7 (show Kd.M k36 _ _ _ (⟨4, 4, (⟨0, 0, false, 0⟩ : S34), 0⟩ : S36) [.int .i64 4, .int .i64 4, .int .i64 0, .int .i64 0, .bool false, .int .i64 0, .int .u8 0] from (k36_mkM _ _ _ (⟨4, 4, (⟨0, 0, false, 0⟩ : S34), 0⟩ : S36) )) (Reps.c7 (show Kd.M k36 _ _ _ (⟨5, 4, (⟨0, 0, false, 0⟩ : S34), 0⟩ : S36) [.int .i64 5, .int .i64 4, .int .i64 0, .int .i64 0, .bool false, .int .i64 0, .int .u8 0] from (k36_mkM _ _ _ (⟨5, 4, (⟨0, 0, false, 0⟩ : S34), 0⟩ : S36) )) (Reps.none _ _))))))); intro v113 w13 ho14 hb hg_ hnew_; clear hg_ hnew_; (first | rw [← Ny112.out] at ho14 | (simp only [Int.reduceToNat] at ho14; rw [← Ny112.out] at ho14)); have n0_ := Aside0.mk (Kd.R_elder' (by (with_reducible repeat (first | apply Kd.R_alloc | apply Kd.R_drewN | apply Kd.R_drew)); exact HO111.out) (Kd.R_base ho14) hb); have n1_ := Aside0.mk (Kd.R_lower (Kd.R_new' ho14 (Kd.R_lt (by (with_reducible repeat (first | apply Kd.R_alloc | apply Kd.R_drewN | apply Kd.R_drew)); exact HO111.out))) (below_size (by repeat (first | (with_reducible first | exact HB.out | apply below_alloc | apply pw_below_drewN | apply below_drew1) | exact HB.out)))); have n2_ := Aside0.mk (below_step (by repeat (first | (with_reducible first | exact HB.out | apply below_alloc | apply pw_below_drewN | apply below_drew1) | exact HB.out)) hb); clear HO111; clear HB; have HO111 := n0_; have HO114 := n1_; have HB := n2_; clear n0_ n1_ n2_; clear hb ho14) | ((with_reducible refine gate_callee (f := 13) rfl ?_); refine goesL_ (some 25) rfl rfl Try.func13 (by kernel_rfl) rfl #[.string (⟨#[48, 2, 2, 1]⟩ : ByteArray), .int .i64 2] rfl (by (try simp only [List.map_toArray, List.map_cons, List.map_nil]); first | done | rfl | (simp only [List.length_drop, List.length_take]; rfl)) ?_; (with_reducible refine (event_Whole.calls (⟨#[48, 2, 2, 1]⟩ : ByteArray) 2 t115 t116 t117 _ A2.out).mono ?_); rintro e w15 ⟨v118, rfl, ho0, hb⟩; refine ⟨_, rfl, ?_⟩; have n0_ := Aside0.mk (Kd.R_elder' (by (with_reducible repeat (first | apply Kd.R_alloc | apply Kd.R_drewN | apply Kd.R_drew)); exact HO111.out) (Kd.R_base ho0) hb); have n1_ := Aside0.mk (Kd.R_elder' (by (with_reducible repeat (first | apply Kd.R_alloc | apply Kd.R_drewN | apply Kd.R_drew)); exact HO114.out) (Kd.R_base ho0) hb); have n2_ := Aside0.mk (Kd.R_lower (Kd.R_new' (Kd.R_new' ho0 (Kd.R_lt (by (with_reducible repeat (first | apply Kd.R_alloc | apply Kd.R_drewN | apply Kd.R_drew)); exact HO111.out))) (Kd.R_lt (by (with_reducible repeat (first | apply Kd.R_alloc | apply Kd.R_drewN | apply Kd.R_drew)); exact HO114.out))) (below_size (by repeat (first | (with_reducible first | exact HB.out | apply below_alloc | apply pw_below_drewN | apply below_drew1) | exact HB.out)))); have n3_ := Aside0.mk (below_step (by repeat (first | (with_reducible first | exact HB.out | apply below_alloc | apply pw_below_drewN | apply below_drew1) | exact HB.out)) hb); clear HO111; clear HO114; clear HB; have HO111 := n0_; have HO114 := n1_; have HO119 := n2_; have HB := n3_; clear n0_ n1_ n2_ n3_; (try clear hb); (try clear hb2); (try clear hk); (try clear hi); (try clear ho0)) | ((with_reducible refine gate_callee (f := 13) rfl ?_); refine goesL_ (some 30) rfl rfl Try.func13 (by kernel_rfl) rfl #[.string (⟨#[48, 0]⟩ : ByteArray), .int .i64 0] rfl (by (try simp only [List.map_toArray, List.map_cons, List.map_nil]); first | done | rfl | (simp only [List.length_drop, List.length_take]; rfl)) ?_; (with_reducible refine (event_Whole.calls (⟨#[48, 0]⟩ : ByteArray) 0 t120 t121 t122 _ A3.out).mono ?_); rintro e w16 ⟨v123, rfl, ho0, hb⟩; refine ⟨_, rfl, ?_⟩; have n0_ := Aside0.mk (Kd.R_elder' (by (with_reducible repeat (first | apply Kd.R_alloc | apply Kd.R_drewN | apply Kd.R_drew)); exact HO111.out) (Kd.R_base ho0) hb); have n1_ := Aside0.mk (Kd.R_elder' (by (with_reducible repeat (first | apply Kd.R_alloc | apply Kd.R_drewN | apply Kd.R_drew)); exact HO114.out) (Kd.R_base ho0) hb); have n2_ := Aside0.mk (Kd.R_elder' (by (with_reducible repeat (first | apply Kd.R_alloc | apply Kd.R_drewN | apply Kd.R_drew)); exact HO119.out) (Kd.R_base ho0) hb); have n3_ := Aside0.mk (Kd.R_lower (Kd.R_new' (Kd.R_new' (Kd.R_new' ho0 (Kd.R_lt (by (with_reducible repeat (first | apply Kd.R_alloc | apply Kd.R_drewN | apply Kd.R_drew)); exact HO111.out))) (Kd.R_lt (by (with_reducible repeat (first | apply Kd.R_alloc | apply Kd.R_drewN | apply Kd.R_drew)); exact HO114.out))) (Kd.R_lt (by (with_reducible repeat (first | apply Kd.R_alloc | apply Kd.R_drewN | apply Kd.R_drew)); exact HO119.out))) (below_size (by repeat (first | (with_reducible first | exact HB.out | apply below_alloc | apply pw_below_drewN | apply below_drew1) | exact HB.out)))); have n4_ := Aside0.mk (below_step (by repeat (first | (with_reducible first | exact HB.out | apply below_alloc | apply pw_below_drewN | apply below_drew1) | exact HB.out)) hb); clear HO111; clear HO114; clear HO119; clear HB; have HO111 := n0_; have HO114 := n1_; have HO119 := n2_; have HO124 := n3_; have HB := n4_; clear n0_ n1_ n2_ n3_ n4_; (try clear hb); (try clear hb2); (try clear hk); (try clear hi); (try clear ho0); obtain ⟨Ao17, co17, eo17⟩ := Kd.R_slice HO111.out; subst eo17; obtain ⟨Ao18, co18, eo18⟩ := Kd.R_slice HO114.out; subst eo18) | ((with_reducible refine gate_callee (f := 15) rfl ?_); refine goesL_ (some 36) rfl rfl Try.func15 (by kernel_rfl) rfl #[.slice Ao17 t107.length co17, .slice Ao18 y112.length co18] rfl (by (try simp only [List.map_toArray, List.map_cons, List.map_nil]); first | done | rfl | (simp only [List.length_drop, List.length_take]; rfl)) ?_; (with_reducible refine (gantletref09_Same.calls k _ _ t107 _ _ y112 true _ ?side1 ?side2 ?side3 ?side4 A4.out).mono ?_); (case side1 => repeat (first | exact (Kd.R_reads' HO111.out).2.2 | (with_reducible refine Kd.C_alloc ?_ _) | (with_reducible refine Kd.C_drewN ?_ _) | (with_reducible refine Kd.C_drew ?_))); (case side2 => exact (Kd.R_reads' HO111.out).2.1); (case side3 => repeat (first | exact (Kd.R_reads' HO114.out).2.2 | (with_reducible refine Kd.C_alloc ?_ _) | (with_reducible refine Kd.C_drewN ?_ _) | (with_reducible refine Kd.C_drew ?_))); (case side4 => exact (Kd.R_reads' HO114.out).2.1); rintro e w' ⟨rfl, ⟨nd, rfl⟩⟩; refine ⟨_, rfl, ?_⟩; obtain ⟨Ao19, co19, eo19⟩ := Kd.R_slice HO124.out; subst eo19))
        go_ret
        exact ⟨by first | rfl | (simp [errW_none, errW_some] <;> rfl) | (simp [*, errW_none, errW_some] <;> rfl), by repeat (first | (with_reducible first | exact HB.out | apply below_alloc | apply pw_below_drewN | apply below_drew1) | exact HB.out)⟩
       ·
        rw [if_neg c11] at H
        exact absurd H (by simp)
      ·
       rw [if_neg c10] at H
       exact absurd H (by simp)
     ·
      rw [if_neg c9] at H
      exact absurd H (by simp)
    ·
     rw [if_neg c8] at H
     exact absurd H (by simp)
   ·
    rw [if_neg c7] at H
    exact absurd H (by simp)
  ·
   rw [if_neg c6] at H
   exact absurd H (by simp)
 ·
  replace c5 := Bool.eq_false_iff.mpr c5
  subst c5
  have H1 : (none) = some r := by rw [if_neg (show ¬ (false = true) by decide)] at H; exact H
  clear H
  have H := H1
  clear H1
  exact absurd H (by simp)

/-! ### gantletlaw09_great: function 12 -/
def gantletlaw09_great.f (a0 : ByteArray) : Option (Bool) := some (decide ((a0.size : Int) > 300))
set_option maxHeartbeats 8000000 in
set_option maxRecDepth 100000 in
theorem gantletlaw09_great.calls (a0 : ByteArray) (r : Bool) (w : World) (h : gantletlaw09_great.f a0 = some r) :
 Calls Try.prog 12 #[.string a0] w fun e w' => e = .returned (.bool r) ∧ Drawn0 w w' := by
 have H : (some (decide ((a0.size : Int) > 300))) = some r := h
 clear h
 obtain rfl := Option.some.inj H
 go_enter Try.func12, Try.ntmps12
 go_wp2
 go_ret
 exact ⟨by first | rfl | (simp; done) | (simp [*]; done) | (simp [show ∀ l : List UInt8, (!l.isEmpty) = (l != []) from fun l => by cases l <;> rfl]; done), by repeat (first | exact Drawn0.refl _ | apply Drawn0.step)⟩

end Go.Proofs.Ytomaajagncjiiaa.PC
