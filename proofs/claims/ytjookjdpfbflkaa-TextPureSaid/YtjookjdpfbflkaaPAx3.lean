-- Written by a program of this session (print2, a turned print): not PRINTED BY print.sh
import Derived.Test.YtjookjdpfbflkaaPAx0
namespace Go.Proofs.Ytjookjdpfbflkaa.PA
open Go.RowKit Go.Proofs.YtjookjdpfbflkaaW.PrintWords Go.Proofs.YtjookjdpfbflkaaW.PrintLast Go.Proofs.YtjookjdpfbflkaaW.PrintMore
attribute [local go_sem] max2_int min2_int max_two min_two max_three min_three max_four min_four   -- for this text's walks alone
set_option linter.unusedVariables false
set_option linter.unusedSimpArgs false

/-! ### gantletref14_char: function 20 -/
mutual
def gantletref14_char.j0 : Nat → ByteArray → Int → Int → Int → Int → Bool → Option (Int)
  | 0, _, _, _, _, _, _ => none
  | k + 1, x0, x1, x5, x6, x7, x21 => if x21 = true then (gantletref14_char.j1 k x0 x1 x5 2 (wrap64 (x5 - 192))) else (gantletref14_char.j1 k x0 x1 x5 x6 x7)
def gantletref14_char.j1 : Nat → ByteArray → Int → Int → Int → Int → Option (Int)
  | 0, _, _, _, _, _ => none
  | k + 1, x0, x1, x5, x6, x7 => if x5 ≥ 224 then (gantletref14_char.j2 k x0 x1 x5 x6 x7 (decide (x5 < 240))) else (gantletref14_char.j2 k x0 x1 x5 x6 x7 false)
def gantletref14_char.j2 : Nat → ByteArray → Int → Int → Int → Int → Bool → Option (Int)
  | 0, _, _, _, _, _, _ => none
  | k + 1, x0, x1, x5, x6, x7, x29 => if x29 = true then (gantletref14_char.j3 k x0 x1 x5 3 (wrap64 (x5 - 224))) else (gantletref14_char.j3 k x0 x1 x5 x6 x7)
def gantletref14_char.j3 : Nat → ByteArray → Int → Int → Int → Int → Option (Int)
  | 0, _, _, _, _, _ => none
  | k + 1, x0, x1, x5, x6, x7 => if x5 ≥ 240 then (gantletref14_char.j4 k x0 x1 x5 x6 x7 (decide (x5 < 248))) else (gantletref14_char.j4 k x0 x1 x5 x6 x7 false)
def gantletref14_char.j4 : Nat → ByteArray → Int → Int → Int → Int → Bool → Option (Int)
  | 0, _, _, _, _, _, _ => none
  | k + 1, x0, x1, x5, x6, x7, x37 => if x37 = true then (gantletref14_char.j5 k x0 x1 4 (wrap64 (x5 - 240))) else (gantletref14_char.j5 k x0 x1 x6 x7)
def gantletref14_char.j5 : Nat → ByteArray → Int → Int → Int → Option (Int)
  | 0, _, _, _, _ => none
  | k + 1, x0, x1, x6, x7 => if x6 = 0 then (gantletref14_char.j6 k x0 x1 x6 x7 true) else (gantletref14_char.j6 k x0 x1 x6 x7 (decide ((wrap64 (x1 + x6)) > (x0.size : Int))))
def gantletref14_char.j6 : Nat → ByteArray → Int → Int → Int → Bool → Option (Int)
  | 0, _, _, _, _, _ => none
  | k + 1, x0, x1, x6, x7, x49 => if x49 = true then (some 0) else (gantletref14_char.l0 k x0 x1 x6 x7 1)
def gantletref14_char.l0 : Nat → ByteArray → Int → Int → Int → Int → Option (Int)
  | 0, _, _, _, _, _ => none
  | k + 1, x0, x1, x6, x7, x8 => if x8 < x6 then (if 0 ≤ (wrap64 (x1 + x8)) then (if (wrap64 (x1 + x8)) < (x0.size : Int) then (if (wrap64 (bt x0 (wrap64 (x1 + x8)))) < 128 then (some 0) else (if (wrap64 (bt x0 (wrap64 (x1 + x8)))) > 191 then (some 0) else (gantletref14_char.l0 k x0 x1 x6 (wrap64 ((wrap64 ((wrap64 (64 * x7)) + (wrap64 (bt x0 (wrap64 (x1 + x8)))))) - 128)) (wrap64 (x8 + 1))))) else (none)) else (none)) else (if x6 = 2 then (if x7 < 128 then (some 0) else (if x6 = 3 then (if x7 < 2048 then (some 0) else (if x6 = 4 then (if x7 < 65536 then (some 0) else (if x7 > 1114111 then (some 0) else (if x7 ≥ 55296 then (if x7 ≤ 57343 then (some 0) else (some x6)) else (some x6)))) else (if x7 ≥ 55296 then (if x7 ≤ 57343 then (some 0) else (some x6)) else (some x6)))) else (if x6 = 4 then (if x7 < 65536 then (some 0) else (if x7 > 1114111 then (some 0) else (if x7 ≥ 55296 then (if x7 ≤ 57343 then (some 0) else (some x6)) else (some x6)))) else (if x7 ≥ 55296 then (if x7 ≤ 57343 then (some 0) else (some x6)) else (some x6))))) else (if x6 = 3 then (if x7 < 2048 then (some 0) else (if x6 = 4 then (if x7 < 65536 then (some 0) else (if x7 > 1114111 then (some 0) else (if x7 ≥ 55296 then (if x7 ≤ 57343 then (some 0) else (some x6)) else (some x6)))) else (if x7 ≥ 55296 then (if x7 ≤ 57343 then (some 0) else (some x6)) else (some x6)))) else (if x6 = 4 then (if x7 < 65536 then (some 0) else (if x7 > 1114111 then (some 0) else (if x7 ≥ 55296 then (if x7 ≤ 57343 then (some 0) else (some x6)) else (some x6)))) else (if x7 ≥ 55296 then (if x7 ≤ 57343 then (some 0) else (some x6)) else (some x6)))))
end
def gantletref14_char.f (k : Nat) (a0 : ByteArray) (a1 : Int) : Option (Int) := if 0 ≤ a1 then (if a1 < (a0.size : Int) then (if (wrap64 (bt a0 a1)) < 128 then (some 1) else (if (wrap64 (bt a0 a1)) ≥ 192 then (gantletref14_char.j0 k a0 a1 (wrap64 (bt a0 a1)) 0 0 (decide ((wrap64 (bt a0 a1)) < 224))) else (gantletref14_char.j0 k a0 a1 (wrap64 (bt a0 a1)) 0 0 false))) else (none)) else (none)
theorem gantletref14_char.mono_l : ∀ k, (∀ y0 y1 y2 y3 y4 y5, LeO (gantletref14_char.j0 k y0 y1 y2 y3 y4 y5) (gantletref14_char.j0 (k + 1) y0 y1 y2 y3 y4 y5)) ∧ (∀ y0 y1 y2 y3 y4, LeO (gantletref14_char.j1 k y0 y1 y2 y3 y4) (gantletref14_char.j1 (k + 1) y0 y1 y2 y3 y4)) ∧ (∀ y0 y1 y2 y3 y4 y5, LeO (gantletref14_char.j2 k y0 y1 y2 y3 y4 y5) (gantletref14_char.j2 (k + 1) y0 y1 y2 y3 y4 y5)) ∧ (∀ y0 y1 y2 y3 y4, LeO (gantletref14_char.j3 k y0 y1 y2 y3 y4) (gantletref14_char.j3 (k + 1) y0 y1 y2 y3 y4)) ∧ (∀ y0 y1 y2 y3 y4 y5, LeO (gantletref14_char.j4 k y0 y1 y2 y3 y4 y5) (gantletref14_char.j4 (k + 1) y0 y1 y2 y3 y4 y5)) ∧ (∀ y0 y1 y2 y3, LeO (gantletref14_char.j5 k y0 y1 y2 y3) (gantletref14_char.j5 (k + 1) y0 y1 y2 y3)) ∧ (∀ y0 y1 y2 y3 y4, LeO (gantletref14_char.j6 k y0 y1 y2 y3 y4) (gantletref14_char.j6 (k + 1) y0 y1 y2 y3 y4)) ∧ (∀ y0 y1 y2 y3 y4, LeO (gantletref14_char.l0 k y0 y1 y2 y3 y4) (gantletref14_char.l0 (k + 1) y0 y1 y2 y3 y4))
  | 0 => ⟨fun _ _ _ _ _ _ r h => by simp [gantletref14_char.j0] at h, fun _ _ _ _ _ r h => by simp [gantletref14_char.j1] at h, fun _ _ _ _ _ _ r h => by simp [gantletref14_char.j2] at h, fun _ _ _ _ _ r h => by simp [gantletref14_char.j3] at h, fun _ _ _ _ _ _ r h => by simp [gantletref14_char.j4] at h, fun _ _ _ _ r h => by simp [gantletref14_char.j5] at h, fun _ _ _ _ _ r h => by simp [gantletref14_char.j6] at h, fun _ _ _ _ _ r h => by simp [gantletref14_char.l0] at h⟩
  | k + 1 => by
    obtain ⟨ih0, ih1, ih2, ih3, ih4, ih5, ih6, ih7⟩ := gantletref14_char.mono_l k
    refine ⟨?_, ?_, ?_, ?_, ?_, ?_, ?_, ?_⟩
    · intro y0 y1 y2 y3 y4 y5
      unfold gantletref14_char.j0
      repeat' first
      | (with_reducible exact ih0 _ _ _ _ _ _)
      | (with_reducible exact ih1 _ _ _ _ _)
      | (with_reducible exact ih2 _ _ _ _ _ _)
      | (with_reducible exact ih3 _ _ _ _ _)
      | (with_reducible exact ih4 _ _ _ _ _ _)
      | (with_reducible exact ih5 _ _ _ _)
      | (with_reducible exact ih6 _ _ _ _ _)
      | (with_reducible exact ih7 _ _ _ _ _)
      | (with_reducible exact LeO.refl _)
      | (with_reducible exact LeO.none _)
      | (with_reducible refine LeO.ite ?_ ?_)
      | (with_reducible refine LeO.bind ?_ (fun _ => ?_))
      | exact ih0 _ _ _ _ _ _
      | exact ih1 _ _ _ _ _
      | exact ih2 _ _ _ _ _ _
      | exact ih3 _ _ _ _ _
      | exact ih4 _ _ _ _ _ _
      | exact ih5 _ _ _ _
      | exact ih6 _ _ _ _ _
      | exact ih7 _ _ _ _ _
      | exact LeO.none _
      | refine LeO.ite ?_ ?_
      | refine LeO.bind ?_ (fun _ => ?_)
    · intro y0 y1 y2 y3 y4
      unfold gantletref14_char.j1
      repeat' first
      | (with_reducible exact ih0 _ _ _ _ _ _)
      | (with_reducible exact ih1 _ _ _ _ _)
      | (with_reducible exact ih2 _ _ _ _ _ _)
      | (with_reducible exact ih3 _ _ _ _ _)
      | (with_reducible exact ih4 _ _ _ _ _ _)
      | (with_reducible exact ih5 _ _ _ _)
      | (with_reducible exact ih6 _ _ _ _ _)
      | (with_reducible exact ih7 _ _ _ _ _)
      | (with_reducible exact LeO.refl _)
      | (with_reducible exact LeO.none _)
      | (with_reducible refine LeO.ite ?_ ?_)
      | (with_reducible refine LeO.bind ?_ (fun _ => ?_))
      | exact ih0 _ _ _ _ _ _
      | exact ih1 _ _ _ _ _
      | exact ih2 _ _ _ _ _ _
      | exact ih3 _ _ _ _ _
      | exact ih4 _ _ _ _ _ _
      | exact ih5 _ _ _ _
      | exact ih6 _ _ _ _ _
      | exact ih7 _ _ _ _ _
      | exact LeO.none _
      | refine LeO.ite ?_ ?_
      | refine LeO.bind ?_ (fun _ => ?_)
    · intro y0 y1 y2 y3 y4 y5
      unfold gantletref14_char.j2
      repeat' first
      | (with_reducible exact ih0 _ _ _ _ _ _)
      | (with_reducible exact ih1 _ _ _ _ _)
      | (with_reducible exact ih2 _ _ _ _ _ _)
      | (with_reducible exact ih3 _ _ _ _ _)
      | (with_reducible exact ih4 _ _ _ _ _ _)
      | (with_reducible exact ih5 _ _ _ _)
      | (with_reducible exact ih6 _ _ _ _ _)
      | (with_reducible exact ih7 _ _ _ _ _)
      | (with_reducible exact LeO.refl _)
      | (with_reducible exact LeO.none _)
      | (with_reducible refine LeO.ite ?_ ?_)
      | (with_reducible refine LeO.bind ?_ (fun _ => ?_))
      | exact ih0 _ _ _ _ _ _
      | exact ih1 _ _ _ _ _
      | exact ih2 _ _ _ _ _ _
      | exact ih3 _ _ _ _ _
      | exact ih4 _ _ _ _ _ _
      | exact ih5 _ _ _ _
      | exact ih6 _ _ _ _ _
      | exact ih7 _ _ _ _ _
      | exact LeO.none _
      | refine LeO.ite ?_ ?_
      | refine LeO.bind ?_ (fun _ => ?_)
    · intro y0 y1 y2 y3 y4
      unfold gantletref14_char.j3
      repeat' first
      | (with_reducible exact ih0 _ _ _ _ _ _)
      | (with_reducible exact ih1 _ _ _ _ _)
      | (with_reducible exact ih2 _ _ _ _ _ _)
      | (with_reducible exact ih3 _ _ _ _ _)
      | (with_reducible exact ih4 _ _ _ _ _ _)
      | (with_reducible exact ih5 _ _ _ _)
      | (with_reducible exact ih6 _ _ _ _ _)
      | (with_reducible exact ih7 _ _ _ _ _)
      | (with_reducible exact LeO.refl _)
      | (with_reducible exact LeO.none _)
      | (with_reducible refine LeO.ite ?_ ?_)
      | (with_reducible refine LeO.bind ?_ (fun _ => ?_))
      | exact ih0 _ _ _ _ _ _
      | exact ih1 _ _ _ _ _
      | exact ih2 _ _ _ _ _ _
      | exact ih3 _ _ _ _ _
      | exact ih4 _ _ _ _ _ _
      | exact ih5 _ _ _ _
      | exact ih6 _ _ _ _ _
      | exact ih7 _ _ _ _ _
      | exact LeO.none _
      | refine LeO.ite ?_ ?_
      | refine LeO.bind ?_ (fun _ => ?_)
    · intro y0 y1 y2 y3 y4 y5
      unfold gantletref14_char.j4
      repeat' first
      | (with_reducible exact ih0 _ _ _ _ _ _)
      | (with_reducible exact ih1 _ _ _ _ _)
      | (with_reducible exact ih2 _ _ _ _ _ _)
      | (with_reducible exact ih3 _ _ _ _ _)
      | (with_reducible exact ih4 _ _ _ _ _ _)
      | (with_reducible exact ih5 _ _ _ _)
      | (with_reducible exact ih6 _ _ _ _ _)
      | (with_reducible exact ih7 _ _ _ _ _)
      | (with_reducible exact LeO.refl _)
      | (with_reducible exact LeO.none _)
      | (with_reducible refine LeO.ite ?_ ?_)
      | (with_reducible refine LeO.bind ?_ (fun _ => ?_))
      | exact ih0 _ _ _ _ _ _
      | exact ih1 _ _ _ _ _
      | exact ih2 _ _ _ _ _ _
      | exact ih3 _ _ _ _ _
      | exact ih4 _ _ _ _ _ _
      | exact ih5 _ _ _ _
      | exact ih6 _ _ _ _ _
      | exact ih7 _ _ _ _ _
      | exact LeO.none _
      | refine LeO.ite ?_ ?_
      | refine LeO.bind ?_ (fun _ => ?_)
    · intro y0 y1 y2 y3
      unfold gantletref14_char.j5
      repeat' first
      | (with_reducible exact ih0 _ _ _ _ _ _)
      | (with_reducible exact ih1 _ _ _ _ _)
      | (with_reducible exact ih2 _ _ _ _ _ _)
      | (with_reducible exact ih3 _ _ _ _ _)
      | (with_reducible exact ih4 _ _ _ _ _ _)
      | (with_reducible exact ih5 _ _ _ _)
      | (with_reducible exact ih6 _ _ _ _ _)
      | (with_reducible exact ih7 _ _ _ _ _)
      | (with_reducible exact LeO.refl _)
      | (with_reducible exact LeO.none _)
      | (with_reducible refine LeO.ite ?_ ?_)
      | (with_reducible refine LeO.bind ?_ (fun _ => ?_))
      | exact ih0 _ _ _ _ _ _
      | exact ih1 _ _ _ _ _
      | exact ih2 _ _ _ _ _ _
      | exact ih3 _ _ _ _ _
      | exact ih4 _ _ _ _ _ _
      | exact ih5 _ _ _ _
      | exact ih6 _ _ _ _ _
      | exact ih7 _ _ _ _ _
      | exact LeO.none _
      | refine LeO.ite ?_ ?_
      | refine LeO.bind ?_ (fun _ => ?_)
    · intro y0 y1 y2 y3 y4
      unfold gantletref14_char.j6
      repeat' first
      | (with_reducible exact ih0 _ _ _ _ _ _)
      | (with_reducible exact ih1 _ _ _ _ _)
      | (with_reducible exact ih2 _ _ _ _ _ _)
      | (with_reducible exact ih3 _ _ _ _ _)
      | (with_reducible exact ih4 _ _ _ _ _ _)
      | (with_reducible exact ih5 _ _ _ _)
      | (with_reducible exact ih6 _ _ _ _ _)
      | (with_reducible exact ih7 _ _ _ _ _)
      | (with_reducible exact LeO.refl _)
      | (with_reducible exact LeO.none _)
      | (with_reducible refine LeO.ite ?_ ?_)
      | (with_reducible refine LeO.bind ?_ (fun _ => ?_))
      | exact ih0 _ _ _ _ _ _
      | exact ih1 _ _ _ _ _
      | exact ih2 _ _ _ _ _ _
      | exact ih3 _ _ _ _ _
      | exact ih4 _ _ _ _ _ _
      | exact ih5 _ _ _ _
      | exact ih6 _ _ _ _ _
      | exact ih7 _ _ _ _ _
      | exact LeO.none _
      | refine LeO.ite ?_ ?_
      | refine LeO.bind ?_ (fun _ => ?_)
    · intro y0 y1 y2 y3 y4
      unfold gantletref14_char.l0
      repeat' first
      | (with_reducible exact ih0 _ _ _ _ _ _)
      | (with_reducible exact ih1 _ _ _ _ _)
      | (with_reducible exact ih2 _ _ _ _ _ _)
      | (with_reducible exact ih3 _ _ _ _ _)
      | (with_reducible exact ih4 _ _ _ _ _ _)
      | (with_reducible exact ih5 _ _ _ _)
      | (with_reducible exact ih6 _ _ _ _ _)
      | (with_reducible exact ih7 _ _ _ _ _)
      | (with_reducible exact LeO.refl _)
      | (with_reducible exact LeO.none _)
      | (with_reducible refine LeO.ite ?_ ?_)
      | (with_reducible refine LeO.bind ?_ (fun _ => ?_))
      | exact ih0 _ _ _ _ _ _
      | exact ih1 _ _ _ _ _
      | exact ih2 _ _ _ _ _ _
      | exact ih3 _ _ _ _ _
      | exact ih4 _ _ _ _ _ _
      | exact ih5 _ _ _ _
      | exact ih6 _ _ _ _ _
      | exact ih7 _ _ _ _ _
      | exact LeO.none _
      | refine LeO.ite ?_ ?_
      | refine LeO.bind ?_ (fun _ => ?_)
theorem gantletref14_char.mono : ∀ a0 a1 k, LeO (gantletref14_char.f k a0 a1) (gantletref14_char.f (k + 1) a0 a1) := by
  intro a0 a1 k
  obtain ⟨ih0, ih1, ih2, ih3, ih4, ih5, ih6, ih7⟩ := gantletref14_char.mono_l k
  unfold gantletref14_char.f
  repeat' first
      | (with_reducible exact ih0 _ _ _ _ _ _)
      | (with_reducible exact ih1 _ _ _ _ _)
      | (with_reducible exact ih2 _ _ _ _ _ _)
      | (with_reducible exact ih3 _ _ _ _ _)
      | (with_reducible exact ih4 _ _ _ _ _ _)
      | (with_reducible exact ih5 _ _ _ _)
      | (with_reducible exact ih6 _ _ _ _ _)
      | (with_reducible exact ih7 _ _ _ _ _)
      | (with_reducible exact LeO.refl _)
      | (with_reducible exact LeO.none _)
      | (with_reducible refine LeO.ite ?_ ?_)
      | (with_reducible refine LeO.bind ?_ (fun _ => ?_))
      | exact ih0 _ _ _ _ _ _
      | exact ih1 _ _ _ _ _
      | exact ih2 _ _ _ _ _ _
      | exact ih3 _ _ _ _ _
      | exact ih4 _ _ _ _ _ _
      | exact ih5 _ _ _ _
      | exact ih6 _ _ _ _ _
      | exact ih7 _ _ _ _ _
      | exact LeO.none _
      | refine LeO.ite ?_ ?_
      | refine LeO.bind ?_ (fun _ => ?_)
set_option maxHeartbeats 8000000 in
set_option maxRecDepth 100000 in
theorem gantletref14_char.calls (k : Nat) (a0 : ByteArray) (a1 : Int) (r : Int) (w : World) (h : gantletref14_char.f k a0 a1 = some r) :
    Calls Try.prog 20 #[.string a0, .int .i64 a1] w fun e w' => e = .returned (.int .i64 r) ∧ Drawn0 w w' := by
  have H : (if 0 ≤ a1 then (if a1 < (a0.size : Int) then (if (wrap64 (bt a0 a1)) < 128 then (some 1) else (if (wrap64 (bt a0 a1)) ≥ 192 then (gantletref14_char.j0 k a0 a1 (wrap64 (bt a0 a1)) 0 0 (decide ((wrap64 (bt a0 a1)) < 224))) else (gantletref14_char.j0 k a0 a1 (wrap64 (bt a0 a1)) 0 0 false))) else (none)) else (none)) = some r := h
  clear h
  by_cases c3 : 0 ≤ a1
  · rw [if_pos c3] at H
    have c3b0 : decide (0 ≤ a1) = true := decide_eq_true c3
    clear c3
    by_cases c4 : a1 < (a0.size : Int)
    · rw [if_pos c4] at H
      have c4b0 : decide (a1 < (a0.size : Int)) = true := decide_eq_true c4
      clear c4
      by_cases c6 : (wrap64 (bt a0 a1)) < 128
      · rw [if_pos c6] at H
        have c6b0 : decide ((wrap64 (bt a0 a1)) < 128) = true := decide_eq_true c6
        clear c6
        obtain rfl := Option.some.inj H
        have p5 : 0 ≤ (a1 : Int) := of_decide_eq_true (by first | (with_reducible assumption) | assumption)
        have q5 : a1 < (a0.size : Int) := of_decide_eq_true (by first | (with_reducible assumption) | assumption)
        have hx5 := bt_at a0 a1
        replace p5 := eq_true p5
        replace q5 := eq_true q5
        go_enter Try.func20, Try.ntmps20
        go_wp2
        go_ret
        exact ⟨by first | rfl | (simp; done) | (simp [*]; done), by repeat (first | exact Drawn0.refl _ | apply Drawn0.step)⟩
      · rw [if_neg c6] at H
        have c6b0 : decide ((wrap64 (bt a0 a1)) < 128) = false := decide_eq_false c6
        clear c6
        have HC7 := Aside0.mk H
        clear H
        have p5 : 0 ≤ (a1 : Int) := of_decide_eq_true (by first | (with_reducible assumption) | assumption)
        have q5 : a1 < (a0.size : Int) := of_decide_eq_true (by first | (with_reducible assumption) | assumption)
        have hx5 := bt_at a0 a1
        replace p5 := eq_true p5
        replace q5 := eq_true q5
        go_enter Try.func20, Try.ntmps20
        go_upto_region 6 with (fail)
        go_cut [21] (fun v21 wc => ∃ (kq : Nat) (x21_6 : Bool), v21 = .bool x21_6 ∧ Aside0 (gantletref14_char.j0 kq a0 a1 (wrap64 (bt a0 a1)) 0 0 x21_6 = some r) ∧ Aside0 (kq ≤ k) ∧ Drawn0 w wc)
        case first =>
          have H := HC7.out
          clear HC7
          by_cases c8 : (wrap64 (bt a0 a1)) ≥ 192
          · rw [if_pos c8] at H
            have c8b0 : decide (192 ≤ (wrap64 (bt a0 a1))) = true := decide_eq_true c8
            clear c8
            (first | rw [c8b0] | (simp only [i64_w, i32_w]; rw [c8b0]) | skip)
            have H' := Aside0.mk H
            clear H
            go_wp2
            go_meet
            case rel => exact ⟨_, (decide ((wrap64 (bt a0 a1)) < 224)), (by first | rfl | (simp; done) | (simp [*]; done)), H', ⟨by first | omega | exact Nat.le_refl _⟩, by repeat (first | exact Drawn0.refl _ | apply Drawn0.step)⟩
          · rw [if_neg c8] at H
            have c8b0 : decide (192 ≤ (wrap64 (bt a0 a1))) = false := decide_eq_false c8
            clear c8
            (first | rw [c8b0] | (simp only [i64_w, i32_w]; rw [c8b0]) | skip)
            have H' := Aside0.mk H
            clear H
            go_wp2
            go_meet
            case rel => exact ⟨_, (false), (by first | rfl | (simp; done) | (simp [*]; done)), H', ⟨by first | omega | exact Nat.le_refl _⟩, by repeat (first | exact Drawn0.refl _ | apply Drawn0.step)⟩
        case rest =>
          clear HC7
          try clear c2
          try clear p2
          try clear c3
          try clear c3b0
          try clear c4
          try clear c4b0
          try clear p5
          try clear q5
          try clear hx5
          try clear c6
          try clear c6b0
          try clear p6
          try clear c8
          try clear c8b0
          try clear p5
          try clear q5
          obtain ⟨kq, x21_6, rfl, HA, HJ6, ⟨mc6, rfl⟩⟩ := hcut
          cases kq with
          | zero => exact absurd HA.out (by simp [gantletref14_char.j0])
          | succ kj6 =>
            have H := HA.out
            clear HA
            simp only [gantletref14_char.j0] at H
            have HC9 := Aside0.mk H
            clear H
            go_upto_if 21 with (fail)
            go_cut [6, 7] (fun v6 v7 wc => ∃ (kq : Nat) (x6_8 : Int) (x7_8 : Int), v6 = .int .i64 x6_8 ∧ v7 = .int .i64 x7_8 ∧ Aside0 (gantletref14_char.j1 kq a0 a1 (wrap64 (bt a0 a1)) x6_8 x7_8 = some r) ∧ Aside0 (kq ≤ kj6) ∧ Drawn0 w wc)
            case first =>
              have H := HC9.out
              clear HC9
              by_cases c10 : x21_6 = true
              · subst c10
                have H1 : (gantletref14_char.j1 kj6 a0 a1 (wrap64 (bt a0 a1)) 2 (wrap64 ((wrap64 (bt a0 a1)) - 192))) = some r := by rw [if_pos rfl] at H; exact H
                clear H
                have H := H1
                clear H1
                have H' := Aside0.mk H
                clear H
                go_wp2
                go_meet
                case rel => exact ⟨_, (2), (wrap64 ((wrap64 (bt a0 a1)) - 192)), (by first | rfl | (simp; done) | (simp [*]; done)), (by first | rfl | (simp; done) | (simp [*]; done)), H', ⟨by have := HJ6.out; first | omega | exact Nat.le_refl _⟩, by repeat (first | exact Drawn0.refl _ | apply Drawn0.step)⟩
              · replace c10 := Bool.eq_false_iff.mpr c10
                subst c10
                have H1 : (gantletref14_char.j1 kj6 a0 a1 (wrap64 (bt a0 a1)) 0 0) = some r := by rw [if_neg (show ¬ (false = true) by decide)] at H; exact H
                clear H
                have H := H1
                clear H1
                have H' := Aside0.mk H
                clear H
                go_wp2
                go_meet
                case rel => exact ⟨_, (0), (0), (by first | rfl | (simp; done) | (simp [*]; done)), (by first | rfl | (simp; done) | (simp [*]; done)), H', ⟨by have := HJ6.out; first | omega | exact Nat.le_refl _⟩, by repeat (first | exact Drawn0.refl _ | apply Drawn0.step)⟩
            case rest =>
              clear HC9
              try clear c1
              try clear c2
              try clear p2
              try clear c3
              try clear c3b0
              try clear c4
              try clear c4b0
              try clear p5
              try clear q5
              try clear hx5
              try clear c6
              try clear c6b0
              try clear p6
              try clear c8
              try clear c8b0
              try clear c10
              try clear p2
              try clear p5
              try clear p6
              try clear q5
              obtain ⟨kq, x6_8, x7_8, rfl, rfl, HA, HJ8, ⟨mc8, rfl⟩⟩ := hcut
              cases kq with
              | zero => exact absurd HA.out (by simp [gantletref14_char.j1])
              | succ kj8 =>
                have H := HA.out
                clear HA
                simp only [gantletref14_char.j1] at H
                have HC11 := Aside0.mk H
                clear H
                go_upto_region 9 with (fail)
                go_cut [29] (fun v29 wc => ∃ (kq : Nat) (x29_10 : Bool), v29 = .bool x29_10 ∧ Aside0 (gantletref14_char.j2 kq a0 a1 (wrap64 (bt a0 a1)) x6_8 x7_8 x29_10 = some r) ∧ Aside0 (kq ≤ kj8) ∧ Drawn0 w wc)
                case first =>
                  have H := HC11.out
                  clear HC11
                  by_cases c12 : (wrap64 (bt a0 a1)) ≥ 224
                  · rw [if_pos c12] at H
                    have c12b0 : decide (224 ≤ (wrap64 (bt a0 a1))) = true := decide_eq_true c12
                    clear c12
                    (first | rw [c12b0] | (simp only [i64_w, i32_w]; rw [c12b0]) | skip)
                    have H' := Aside0.mk H
                    clear H
                    go_wp2
                    go_meet
                    case rel => exact ⟨_, (decide ((wrap64 (bt a0 a1)) < 240)), (by first | rfl | (simp; done) | (simp [*]; done)), H', ⟨by have := HJ6.out; have := HJ8.out; first | omega | exact Nat.le_refl _⟩, by repeat (first | exact Drawn0.refl _ | apply Drawn0.step)⟩
                  · rw [if_neg c12] at H
                    have c12b0 : decide (224 ≤ (wrap64 (bt a0 a1))) = false := decide_eq_false c12
                    clear c12
                    (first | rw [c12b0] | (simp only [i64_w, i32_w]; rw [c12b0]) | skip)
                    have H' := Aside0.mk H
                    clear H
                    go_wp2
                    go_meet
                    case rel => exact ⟨_, (false), (by first | rfl | (simp; done) | (simp [*]; done)), H', ⟨by have := HJ6.out; have := HJ8.out; first | omega | exact Nat.le_refl _⟩, by repeat (first | exact Drawn0.refl _ | apply Drawn0.step)⟩
                case rest =>
                  clear HC11
                  try clear c1
                  try clear c2
                  try clear p2
                  try clear c3
                  try clear c3b0
                  try clear c4
                  try clear c4b0
                  try clear p5
                  try clear q5
                  try clear hx5
                  try clear c6
                  try clear c6b0
                  try clear p6
                  try clear c8
                  try clear c8b0
                  try clear c10
                  try clear c12
                  try clear c12b0
                  try clear p2
                  try clear p5
                  try clear p6
                  try clear q5
                  obtain ⟨kq, x29_10, rfl, HA, HJ10, ⟨mc10, rfl⟩⟩ := hcut
                  cases kq with
                  | zero => exact absurd HA.out (by simp [gantletref14_char.j2])
                  | succ kj10 =>
                    have H := HA.out
                    clear HA
                    simp only [gantletref14_char.j2] at H
                    have HC13 := Aside0.mk H
                    clear H
                    go_upto_if 29 with (fail)
                    go_cut [6, 7] (fun v6 v7 wc => ∃ (kq : Nat) (x6_12 : Int) (x7_12 : Int), v6 = .int .i64 x6_12 ∧ v7 = .int .i64 x7_12 ∧ Aside0 (gantletref14_char.j3 kq a0 a1 (wrap64 (bt a0 a1)) x6_12 x7_12 = some r) ∧ Aside0 (kq ≤ kj10) ∧ Drawn0 w wc)
                    case first =>
                      have H := HC13.out
                      clear HC13
                      by_cases c14 : x29_10 = true
                      · subst c14
                        have H1 : (gantletref14_char.j3 kj10 a0 a1 (wrap64 (bt a0 a1)) 3 (wrap64 ((wrap64 (bt a0 a1)) - 224))) = some r := by rw [if_pos rfl] at H; exact H
                        clear H
                        have H := H1
                        clear H1
                        have H' := Aside0.mk H
                        clear H
                        go_wp2
                        go_meet
                        case rel => exact ⟨_, (3), (wrap64 ((wrap64 (bt a0 a1)) - 224)), (by first | rfl | (simp; done) | (simp [*]; done)), (by first | rfl | (simp; done) | (simp [*]; done)), H', ⟨by have := HJ6.out; have := HJ8.out; have := HJ10.out; first | omega | exact Nat.le_refl _⟩, by repeat (first | exact Drawn0.refl _ | apply Drawn0.step)⟩
                      · replace c14 := Bool.eq_false_iff.mpr c14
                        subst c14
                        have H1 : (gantletref14_char.j3 kj10 a0 a1 (wrap64 (bt a0 a1)) x6_8 x7_8) = some r := by rw [if_neg (show ¬ (false = true) by decide)] at H; exact H
                        clear H
                        have H := H1
                        clear H1
                        have H' := Aside0.mk H
                        clear H
                        go_wp2
                        go_meet
                        case rel => exact ⟨_, (x6_8), (x7_8), (by first | rfl | (simp; done) | (simp [*]; done)), (by first | rfl | (simp; done) | (simp [*]; done)), H', ⟨by have := HJ6.out; have := HJ8.out; have := HJ10.out; first | omega | exact Nat.le_refl _⟩, by repeat (first | exact Drawn0.refl _ | apply Drawn0.step)⟩
                    case rest =>
                      clear HC13
                      try clear c1
                      try clear c2
                      try clear p2
                      try clear c3
                      try clear c3b0
                      try clear c4
                      try clear c4b0
                      try clear p5
                      try clear q5
                      try clear hx5
                      try clear c6
                      try clear c6b0
                      try clear p6
                      try clear c8
                      try clear c8b0
                      try clear c10
                      try clear c12
                      try clear c12b0
                      try clear c14
                      try clear p2
                      try clear p5
                      try clear p6
                      try clear q5
                      obtain ⟨kq, x6_12, x7_12, rfl, rfl, HA, HJ12, ⟨mc12, rfl⟩⟩ := hcut
                      cases kq with
                      | zero => exact absurd HA.out (by simp [gantletref14_char.j3])
                      | succ kj12 =>
                        have H := HA.out
                        clear HA
                        simp only [gantletref14_char.j3] at H
                        have HC15 := Aside0.mk H
                        clear H
                        go_upto_region 12 with (fail)
                        go_cut [37] (fun v37 wc => ∃ (kq : Nat) (x37_14 : Bool), v37 = .bool x37_14 ∧ Aside0 (gantletref14_char.j4 kq a0 a1 (wrap64 (bt a0 a1)) x6_12 x7_12 x37_14 = some r) ∧ Aside0 (kq ≤ kj12) ∧ Drawn0 w wc)
                        case first =>
                          have H := HC15.out
                          clear HC15
                          by_cases c16 : (wrap64 (bt a0 a1)) ≥ 240
                          · rw [if_pos c16] at H
                            have c16b0 : decide (240 ≤ (wrap64 (bt a0 a1))) = true := decide_eq_true c16
                            clear c16
                            (first | rw [c16b0] | (simp only [i64_w, i32_w]; rw [c16b0]) | skip)
                            have H' := Aside0.mk H
                            clear H
                            go_wp2
                            go_meet
                            case rel => exact ⟨_, (decide ((wrap64 (bt a0 a1)) < 248)), (by first | rfl | (simp; done) | (simp [*]; done)), H', ⟨by have := HJ6.out; have := HJ8.out; have := HJ10.out; have := HJ12.out; first | omega | exact Nat.le_refl _⟩, by repeat (first | exact Drawn0.refl _ | apply Drawn0.step)⟩
                          · rw [if_neg c16] at H
                            have c16b0 : decide (240 ≤ (wrap64 (bt a0 a1))) = false := decide_eq_false c16
                            clear c16
                            (first | rw [c16b0] | (simp only [i64_w, i32_w]; rw [c16b0]) | skip)
                            have H' := Aside0.mk H
                            clear H
                            go_wp2
                            go_meet
                            case rel => exact ⟨_, (false), (by first | rfl | (simp; done) | (simp [*]; done)), H', ⟨by have := HJ6.out; have := HJ8.out; have := HJ10.out; have := HJ12.out; first | omega | exact Nat.le_refl _⟩, by repeat (first | exact Drawn0.refl _ | apply Drawn0.step)⟩
                        case rest =>
                          clear HC15
                          try clear c1
                          try clear c2
                          try clear p2
                          try clear c3
                          try clear c3b0
                          try clear c4
                          try clear c4b0
                          try clear p5
                          try clear q5
                          try clear hx5
                          try clear c6
                          try clear c6b0
                          try clear p6
                          try clear c8
                          try clear c8b0
                          try clear c10
                          try clear c12
                          try clear c12b0
                          try clear c14
                          try clear c16
                          try clear c16b0
                          try clear p2
                          try clear p5
                          try clear p6
                          try clear q5
                          obtain ⟨kq, x37_14, rfl, HA, HJ14, ⟨mc14, rfl⟩⟩ := hcut
                          cases kq with
                          | zero => exact absurd HA.out (by simp [gantletref14_char.j4])
                          | succ kj14 =>
                            have H := HA.out
                            clear HA
                            simp only [gantletref14_char.j4] at H
                            have HC17 := Aside0.mk H
                            clear H
                            go_upto_if 37 with (fail)
                            go_cut [6, 7] (fun v6 v7 wc => ∃ (kq : Nat) (x6_16 : Int) (x7_16 : Int), v6 = .int .i64 x6_16 ∧ v7 = .int .i64 x7_16 ∧ Aside0 (gantletref14_char.j5 kq a0 a1 x6_16 x7_16 = some r) ∧ Aside0 (kq ≤ kj14) ∧ Drawn0 w wc)
                            case first =>
                              have H := HC17.out
                              clear HC17
                              by_cases c18 : x37_14 = true
                              · subst c18
                                have H1 : (gantletref14_char.j5 kj14 a0 a1 4 (wrap64 ((wrap64 (bt a0 a1)) - 240))) = some r := by rw [if_pos rfl] at H; exact H
                                clear H
                                have H := H1
                                clear H1
                                have H' := Aside0.mk H
                                clear H
                                go_wp2
                                go_meet
                                case rel => exact ⟨_, (4), (wrap64 ((wrap64 (bt a0 a1)) - 240)), (by first | rfl | (simp; done) | (simp [*]; done)), (by first | rfl | (simp; done) | (simp [*]; done)), H', ⟨by have := HJ6.out; have := HJ8.out; have := HJ10.out; have := HJ12.out; have := HJ14.out; first | omega | exact Nat.le_refl _⟩, by repeat (first | exact Drawn0.refl _ | apply Drawn0.step)⟩
                              · replace c18 := Bool.eq_false_iff.mpr c18
                                subst c18
                                have H1 : (gantletref14_char.j5 kj14 a0 a1 x6_12 x7_12) = some r := by rw [if_neg (show ¬ (false = true) by decide)] at H; exact H
                                clear H
                                have H := H1
                                clear H1
                                have H' := Aside0.mk H
                                clear H
                                go_wp2
                                go_meet
                                case rel => exact ⟨_, (x6_12), (x7_12), (by first | rfl | (simp; done) | (simp [*]; done)), (by first | rfl | (simp; done) | (simp [*]; done)), H', ⟨by have := HJ6.out; have := HJ8.out; have := HJ10.out; have := HJ12.out; have := HJ14.out; first | omega | exact Nat.le_refl _⟩, by repeat (first | exact Drawn0.refl _ | apply Drawn0.step)⟩
                            case rest =>
                              clear HC17
                              try clear c1
                              try clear c2
                              try clear p2
                              try clear c3
                              try clear c3b0
                              try clear c4
                              try clear c4b0
                              try clear p5
                              try clear q5
                              try clear hx5
                              try clear c6
                              try clear c6b0
                              try clear p6
                              try clear c8
                              try clear c8b0
                              try clear c10
                              try clear c12
                              try clear c12b0
                              try clear c14
                              try clear c16
                              try clear c16b0
                              try clear c18
                              try clear p2
                              try clear p5
                              try clear p6
                              try clear q5
                              obtain ⟨kq, x6_16, x7_16, rfl, rfl, HA, HJ16, ⟨mc16, rfl⟩⟩ := hcut
                              cases kq with
                              | zero => exact absurd HA.out (by simp [gantletref14_char.j5])
                              | succ kj16 =>
                                have H := HA.out
                                clear HA
                                simp only [gantletref14_char.j5] at H
                                have HC19 := Aside0.mk H
                                clear H
                                go_upto_region 15 with (fail)
                                go_cut [49] (fun v49 wc => ∃ (kq : Nat) (x49_18 : Bool), v49 = .bool x49_18 ∧ Aside0 (gantletref14_char.j6 kq a0 a1 x6_16 x7_16 x49_18 = some r) ∧ Aside0 (kq ≤ kj16) ∧ Drawn0 w wc)
                                case first =>
                                  have H := HC19.out
                                  clear HC19
                                  by_cases c20 : x6_16 = 0
                                  · rw [if_pos c20] at H
                                    have c20b0 : (x6_16 == 0) = true := beq_iff_eq.mpr c20
                                    have c20b1 : (x6_16 != 0) = false := bne_eq_false_iff_eq.mpr c20
                                    clear c20
                                    (first | rw [c20b0] | (simp only [i64_w, i32_w]; rw [c20b0]) | skip)
                                    have H' := Aside0.mk H
                                    clear H
                                    go_wp2
                                    go_meet
                                    case rel => exact ⟨_, (true), (by first | rfl | (simp; done) | (simp [*]; done)), H', ⟨by have := HJ6.out; have := HJ8.out; have := HJ10.out; have := HJ12.out; have := HJ14.out; have := HJ16.out; first | omega | exact Nat.le_refl _⟩, by repeat (first | exact Drawn0.refl _ | apply Drawn0.step)⟩
                                  · rw [if_neg c20] at H
                                    have c20b0 : (x6_16 == 0) = false := beq_eq_false_iff_ne.mpr c20
                                    have c20b1 : (x6_16 != 0) = true := bne_iff_ne.mpr c20
                                    (first | rw [c20b0] | (simp only [i64_w, i32_w]; rw [c20b0]) | skip)
                                    have H' := Aside0.mk H
                                    clear H
                                    go_wp2
                                    go_meet
                                    case rel => exact ⟨_, (decide ((wrap64 (a1 + x6_16)) > (a0.size : Int))), (by first | rfl | (simp; done) | (simp [*]; done)), H', ⟨by have := HJ6.out; have := HJ8.out; have := HJ10.out; have := HJ12.out; have := HJ14.out; have := HJ16.out; first | omega | exact Nat.le_refl _⟩, by repeat (first | exact Drawn0.refl _ | apply Drawn0.step)⟩
                                case rest =>
                                  clear HC19
                                  try clear c1
                                  try clear c2
                                  try clear p2
                                  try clear c3
                                  try clear c3b0
                                  try clear c4
                                  try clear c4b0
                                  try clear p5
                                  try clear q5
                                  try clear hx5
                                  try clear c6
                                  try clear c6b0
                                  try clear p6
                                  try clear c8
                                  try clear c8b0
                                  try clear c10
                                  try clear c12
                                  try clear c12b0
                                  try clear c14
                                  try clear c16
                                  try clear c16b0
                                  try clear c18
                                  try clear c20
                                  try clear c20b0
                                  try clear c20b1
                                  try clear p2
                                  try clear p5
                                  try clear p6
                                  try clear q5
                                  obtain ⟨kq, x49_18, rfl, HA, HJ18, ⟨mc18, rfl⟩⟩ := hcut
                                  cases kq with
                                  | zero => exact absurd HA.out (by simp [gantletref14_char.j6])
                                  | succ kj18 =>
                                    have H := HA.out
                                    clear HA
                                    simp only [gantletref14_char.j6] at H
                                    by_cases c21 : x49_18 = true
                                    · subst c21
                                      have H1 : (some 0) = some r := by rw [if_pos rfl] at H; exact H
                                      clear H
                                      have H := H1
                                      clear H1
                                      obtain rfl := Option.some.inj H
                                      go_wp2
                                      go_ret
                                      exact ⟨by first | rfl | (simp; done) | (simp [*]; done), by repeat (first | exact Drawn0.refl _ | apply Drawn0.step)⟩
                                    · replace c21 := Bool.eq_false_iff.mpr c21
                                      subst c21
                                      have H1 : (gantletref14_char.l0 kj18 a0 a1 x6_16 x7_16 1) = some r := by rw [if_neg (show ¬ (false = true) by decide)] at H; exact H
                                      clear H
                                      have H := H1
                                      clear H1
                                      have H' := Aside0.mk H
                                      clear H
                                      go_wp2
                                      go_loopg [7, 8] kj18 (fun kq v7 v8 w' => ∃ (x7_8 : Int) (x8_8 : Int), v7 = .int .i64 x7_8 ∧ v8 = .int .i64 x8_8 ∧ Aside0 (gantletref14_char.l0 kq a0 a1 x6_16 x7_8 x8_8 = some r) ∧ Aside0 (kq ≤ kj18) ∧ Drawn0 w w')
                                      case atStart => exact ⟨(x7_16), (1), (by first | rfl | (simp; done) | (simp [*]; done)), (by first | rfl | (simp; done) | (simp [*]; done)), H', ⟨Nat.le_refl _⟩, by repeat (first | exact Drawn0.refl _ | apply Drawn0.step)⟩
                                      case round =>
                                        clear H'
                                        try clear c1
                                        try clear c2
                                        try clear p2
                                        try clear c3
                                        try clear c3b0
                                        try clear c4
                                        try clear c4b0
                                        try clear p5
                                        try clear q5
                                        try clear hx5
                                        try clear c6
                                        try clear c6b0
                                        try clear p6
                                        try clear c8
                                        try clear c8b0
                                        try clear c10
                                        try clear c12
                                        try clear c12b0
                                        try clear c14
                                        try clear c16
                                        try clear c16b0
                                        try clear c18
                                        try clear c20
                                        try clear c20b0
                                        try clear c20b1
                                        try clear c21
                                        try clear p2
                                        try clear p5
                                        try clear p6
                                        try clear q5
                                        obtain ⟨x7_8, x8_8, rfl, rfl, HA, HK8, ⟨m8, rfl⟩⟩ := hrel
                                        cases gk with
                                        | zero => exact absurd HA.out (by simp [gantletref14_char.l0])
                                        | succ k8 =>
                                          have H := HA.out
                                          clear HA
                                          simp only [gantletref14_char.l0] at H
                                          by_cases c22 : x8_8 < x6_16
                                          · rw [if_pos c22] at H
                                            have c22b0 : decide (x8_8 < x6_16) = true := decide_eq_true c22
                                            clear c22
                                            obtain ⟨ji23, hji23⟩ : ∃ j_ : Int, (wrap64 (a1 + x8_8)) = j_ := ⟨_, rfl⟩
                                            replace H : (if 0 ≤ (ji23) then (if (ji23) < (a0.size : Int) then (if (wrap64 (bt a0 (ji23))) < 128 then (some 0) else (if (wrap64 (bt a0 (ji23))) > 191 then (some 0) else (gantletref14_char.l0 k8 a0 a1 x6_16 (wrap64 ((wrap64 ((wrap64 (64 * x7_8)) + (wrap64 (bt a0 (ji23))))) - 128)) (wrap64 (x8_8 + 1))))) else (none)) else (none)) = some r := by first | (rw [hji23] at H; exact H) | (simp only [hji23] at H ⊢; exact H)
                                            have hji23w : (IntKind.i64.wrap (a1 + x8_8)) = ji23 := (i64_w _).trans hji23
                                            by_cases c24 : 0 ≤ (ji23)
                                            · rw [if_pos c24] at H
                                              have c24b0 : decide (0 ≤ (ji23)) = true := decide_eq_true c24
                                              clear c24
                                              by_cases c25 : (ji23) < (a0.size : Int)
                                              · rw [if_pos c25] at H
                                                have c25b0 : decide ((ji23) < (a0.size : Int)) = true := decide_eq_true c25
                                                clear c25
                                                by_cases c27 : (wrap64 (bt a0 (ji23))) < 128
                                                · rw [if_pos c27] at H
                                                  have c27b0 : decide ((wrap64 (bt a0 (ji23))) < 128) = true := decide_eq_true c27
                                                  clear c27
                                                  obtain rfl := Option.some.inj H
                                                  have p26 : 0 ≤ ((ji23) : Int) := of_decide_eq_true (by first | (with_reducible assumption) | assumption)
                                                  have q26 : (ji23) < (a0.size : Int) := of_decide_eq_true (by first | (with_reducible assumption) | assumption)
                                                  have hx26 := bt_at a0 (ji23)
                                                  replace p26 := eq_true p26
                                                  replace q26 := eq_true q26
                                                  go_wp2
                                                  go_ret
                                                  exact ⟨by first | rfl | (simp; done) | (simp only [← hji23] <;> (first | rfl | simp)) | (simp [*]; done), by repeat (first | exact Drawn0.refl _ | apply Drawn0.step)⟩
                                                · rw [if_neg c27] at H
                                                  have c27b0 : decide ((wrap64 (bt a0 (ji23))) < 128) = false := decide_eq_false c27
                                                  clear c27
                                                  by_cases c28 : (wrap64 (bt a0 (ji23))) > 191
                                                  · rw [if_pos c28] at H
                                                    have c28b0 : decide (191 < (wrap64 (bt a0 (ji23)))) = true := decide_eq_true c28
                                                    clear c28
                                                    obtain rfl := Option.some.inj H
                                                    have p26 : 0 ≤ ((ji23) : Int) := of_decide_eq_true (by first | (with_reducible assumption) | assumption)
                                                    have q26 : (ji23) < (a0.size : Int) := of_decide_eq_true (by first | (with_reducible assumption) | assumption)
                                                    have hx26 := bt_at a0 (ji23)
                                                    replace p26 := eq_true p26
                                                    replace q26 := eq_true q26
                                                    go_wp2
                                                    go_ret
                                                    exact ⟨by first | rfl | (simp; done) | (simp only [← hji23] <;> (first | rfl | simp)) | (simp [*]; done), by repeat (first | exact Drawn0.refl _ | apply Drawn0.step)⟩
                                                  · rw [if_neg c28] at H
                                                    have c28b0 : decide (191 < (wrap64 (bt a0 (ji23)))) = false := decide_eq_false c28
                                                    clear c28
                                                    have H' := Aside0.mk H
                                                    clear H
                                                    have p26 : 0 ≤ ((ji23) : Int) := of_decide_eq_true (by first | (with_reducible assumption) | assumption)
                                                    have q26 : (ji23) < (a0.size : Int) := of_decide_eq_true (by first | (with_reducible assumption) | assumption)
                                                    have hx26 := bt_at a0 (ji23)
                                                    replace p26 := eq_true p26
                                                    replace q26 := eq_true q26
                                                    go_wp2
                                                    go_roundg k8
                                                    case measure => have := HJ6.out; have := HJ8.out; have := HJ10.out; have := HJ12.out; have := HJ14.out; have := HJ16.out; have := HJ18.out; have := HK8.out; omega
                                                    case rel => exact ⟨(wrap64 ((wrap64 ((wrap64 (64 * x7_8)) + (wrap64 (bt a0 (ji23))))) - 128)), (wrap64 (x8_8 + 1)), (by first | rfl | (simp; done) | (simp only [← hji23] <;> (first | rfl | simp)) | (simp [*]; done)), (by first | rfl | (simp; done) | (simp [*]; done)), H', ⟨by have := HJ6.out; have := HJ8.out; have := HJ10.out; have := HJ12.out; have := HJ14.out; have := HJ16.out; have := HJ18.out; have := HK8.out; omega⟩, by repeat (first | exact Drawn0.refl _ | apply Drawn0.step)⟩
                                              · rw [if_neg c25] at H
                                                exact absurd H (by simp)
                                            · rw [if_neg c24] at H
                                              exact absurd H (by simp)
                                          · rw [if_neg c22] at H
                                            have c22b0 : decide (x8_8 < x6_16) = false := decide_eq_false c22
                                            clear c22
                                            by_cases c29 : x6_16 = 2
                                            · rw [if_pos c29] at H
                                              have c29b0 : (x6_16 == 2) = true := beq_iff_eq.mpr c29
                                              have c29b1 : (x6_16 != 2) = false := bne_eq_false_iff_eq.mpr c29
                                              clear c29
                                              by_cases c30 : x7_8 < 128
                                              · rw [if_pos c30] at H
                                                have c30b0 : decide (x7_8 < 128) = true := decide_eq_true c30
                                                clear c30
                                                obtain rfl := Option.some.inj H
                                                go_wp2
                                                go_ret
                                                exact ⟨by first | rfl | (simp; done) | (simp [*]; done), by repeat (first | exact Drawn0.refl _ | apply Drawn0.step)⟩
                                              · rw [if_neg c30] at H
                                                have c30b0 : decide (x7_8 < 128) = false := decide_eq_false c30
                                                clear c30
                                                by_cases c31 : x6_16 = 3
                                                · rw [if_pos c31] at H
                                                  have c31b0 : (x6_16 == 3) = true := beq_iff_eq.mpr c31
                                                  have c31b1 : (x6_16 != 3) = false := bne_eq_false_iff_eq.mpr c31
                                                  clear c31
                                                  by_cases c32 : x7_8 < 2048
                                                  · rw [if_pos c32] at H
                                                    have c32b0 : decide (x7_8 < 2048) = true := decide_eq_true c32
                                                    clear c32
                                                    obtain rfl := Option.some.inj H
                                                    go_wp2
                                                    go_ret
                                                    exact ⟨by first | rfl | (simp; done) | (simp [*]; done), by repeat (first | exact Drawn0.refl _ | apply Drawn0.step)⟩
                                                  · rw [if_neg c32] at H
                                                    have c32b0 : decide (x7_8 < 2048) = false := decide_eq_false c32
                                                    clear c32
                                                    by_cases c33 : x6_16 = 4
                                                    · rw [if_pos c33] at H
                                                      have c33b0 : (x6_16 == 4) = true := beq_iff_eq.mpr c33
                                                      have c33b1 : (x6_16 != 4) = false := bne_eq_false_iff_eq.mpr c33
                                                      clear c33
                                                      by_cases c34 : x7_8 < 65536
                                                      · rw [if_pos c34] at H
                                                        have c34b0 : decide (x7_8 < 65536) = true := decide_eq_true c34
                                                        clear c34
                                                        obtain rfl := Option.some.inj H
                                                        go_wp2
                                                        go_ret
                                                        exact ⟨by first | rfl | (simp; done) | (simp [*]; done), by repeat (first | exact Drawn0.refl _ | apply Drawn0.step)⟩
                                                      · rw [if_neg c34] at H
                                                        have c34b0 : decide (x7_8 < 65536) = false := decide_eq_false c34
                                                        clear c34
                                                        by_cases c35 : x7_8 > 1114111
                                                        · rw [if_pos c35] at H
                                                          have c35b0 : decide (1114111 < x7_8) = true := decide_eq_true c35
                                                          clear c35
                                                          obtain rfl := Option.some.inj H
                                                          go_wp2
                                                          go_ret
                                                          exact ⟨by first | rfl | (simp; done) | (simp [*]; done), by repeat (first | exact Drawn0.refl _ | apply Drawn0.step)⟩
                                                        · rw [if_neg c35] at H
                                                          have c35b0 : decide (1114111 < x7_8) = false := decide_eq_false c35
                                                          clear c35
                                                          by_cases c36 : x7_8 ≥ 55296
                                                          · rw [if_pos c36] at H
                                                            have c36b0 : decide (55296 ≤ x7_8) = true := decide_eq_true c36
                                                            clear c36
                                                            by_cases c37 : x7_8 ≤ 57343
                                                            · rw [if_pos c37] at H
                                                              have c37b0 : decide (x7_8 ≤ 57343) = true := decide_eq_true c37
                                                              clear c37
                                                              obtain rfl := Option.some.inj H
                                                              go_wp2
                                                              go_ret
                                                              exact ⟨by first | rfl | (simp; done) | (simp [*]; done), by repeat (first | exact Drawn0.refl _ | apply Drawn0.step)⟩
                                                            · rw [if_neg c37] at H
                                                              have c37b0 : decide (x7_8 ≤ 57343) = false := decide_eq_false c37
                                                              clear c37
                                                              obtain rfl := Option.some.inj H
                                                              go_wp2
                                                              go_ret
                                                              exact ⟨by first | rfl | (simp; done) | (simp [*]; done), by repeat (first | exact Drawn0.refl _ | apply Drawn0.step)⟩
                                                          · rw [if_neg c36] at H
                                                            have c36b0 : decide (55296 ≤ x7_8) = false := decide_eq_false c36
                                                            clear c36
                                                            obtain rfl := Option.some.inj H
                                                            go_wp2
                                                            go_ret
                                                            exact ⟨by first | rfl | (simp; done) | (simp [*]; done), by repeat (first | exact Drawn0.refl _ | apply Drawn0.step)⟩
                                                    · rw [if_neg c33] at H
                                                      have c33b0 : (x6_16 == 4) = false := beq_eq_false_iff_ne.mpr c33
                                                      have c33b1 : (x6_16 != 4) = true := bne_iff_ne.mpr c33
                                                      by_cases c38 : x7_8 ≥ 55296
                                                      · rw [if_pos c38] at H
                                                        have c38b0 : decide (55296 ≤ x7_8) = true := decide_eq_true c38
                                                        clear c38
                                                        by_cases c39 : x7_8 ≤ 57343
                                                        · rw [if_pos c39] at H
                                                          have c39b0 : decide (x7_8 ≤ 57343) = true := decide_eq_true c39
                                                          clear c39
                                                          obtain rfl := Option.some.inj H
                                                          go_wp2
                                                          go_ret
                                                          exact ⟨by first | rfl | (simp; done) | (simp [*]; done), by repeat (first | exact Drawn0.refl _ | apply Drawn0.step)⟩
                                                        · rw [if_neg c39] at H
                                                          have c39b0 : decide (x7_8 ≤ 57343) = false := decide_eq_false c39
                                                          clear c39
                                                          obtain rfl := Option.some.inj H
                                                          go_wp2
                                                          go_ret
                                                          exact ⟨by first | rfl | (simp; done) | (simp [*]; done), by repeat (first | exact Drawn0.refl _ | apply Drawn0.step)⟩
                                                      · rw [if_neg c38] at H
                                                        have c38b0 : decide (55296 ≤ x7_8) = false := decide_eq_false c38
                                                        clear c38
                                                        obtain rfl := Option.some.inj H
                                                        go_wp2
                                                        go_ret
                                                        exact ⟨by first | rfl | (simp; done) | (simp [*]; done), by repeat (first | exact Drawn0.refl _ | apply Drawn0.step)⟩
                                                · rw [if_neg c31] at H
                                                  have c31b0 : (x6_16 == 3) = false := beq_eq_false_iff_ne.mpr c31
                                                  have c31b1 : (x6_16 != 3) = true := bne_iff_ne.mpr c31
                                                  by_cases c40 : x6_16 = 4
                                                  · rw [if_pos c40] at H
                                                    have c40b0 : (x6_16 == 4) = true := beq_iff_eq.mpr c40
                                                    have c40b1 : (x6_16 != 4) = false := bne_eq_false_iff_eq.mpr c40
                                                    clear c40
                                                    by_cases c41 : x7_8 < 65536
                                                    · rw [if_pos c41] at H
                                                      have c41b0 : decide (x7_8 < 65536) = true := decide_eq_true c41
                                                      clear c41
                                                      obtain rfl := Option.some.inj H
                                                      go_wp2
                                                      go_ret
                                                      exact ⟨by first | rfl | (simp; done) | (simp [*]; done), by repeat (first | exact Drawn0.refl _ | apply Drawn0.step)⟩
                                                    · rw [if_neg c41] at H
                                                      have c41b0 : decide (x7_8 < 65536) = false := decide_eq_false c41
                                                      clear c41
                                                      by_cases c42 : x7_8 > 1114111
                                                      · rw [if_pos c42] at H
                                                        have c42b0 : decide (1114111 < x7_8) = true := decide_eq_true c42
                                                        clear c42
                                                        obtain rfl := Option.some.inj H
                                                        go_wp2
                                                        go_ret
                                                        exact ⟨by first | rfl | (simp; done) | (simp [*]; done), by repeat (first | exact Drawn0.refl _ | apply Drawn0.step)⟩
                                                      · rw [if_neg c42] at H
                                                        have c42b0 : decide (1114111 < x7_8) = false := decide_eq_false c42
                                                        clear c42
                                                        by_cases c43 : x7_8 ≥ 55296
                                                        · rw [if_pos c43] at H
                                                          have c43b0 : decide (55296 ≤ x7_8) = true := decide_eq_true c43
                                                          clear c43
                                                          by_cases c44 : x7_8 ≤ 57343
                                                          · rw [if_pos c44] at H
                                                            have c44b0 : decide (x7_8 ≤ 57343) = true := decide_eq_true c44
                                                            clear c44
                                                            obtain rfl := Option.some.inj H
                                                            go_wp2
                                                            go_ret
                                                            exact ⟨by first | rfl | (simp; done) | (simp [*]; done), by repeat (first | exact Drawn0.refl _ | apply Drawn0.step)⟩
                                                          · rw [if_neg c44] at H
                                                            have c44b0 : decide (x7_8 ≤ 57343) = false := decide_eq_false c44
                                                            clear c44
                                                            obtain rfl := Option.some.inj H
                                                            go_wp2
                                                            go_ret
                                                            exact ⟨by first | rfl | (simp; done) | (simp [*]; done), by repeat (first | exact Drawn0.refl _ | apply Drawn0.step)⟩
                                                        · rw [if_neg c43] at H
                                                          have c43b0 : decide (55296 ≤ x7_8) = false := decide_eq_false c43
                                                          clear c43
                                                          obtain rfl := Option.some.inj H
                                                          go_wp2
                                                          go_ret
                                                          exact ⟨by first | rfl | (simp; done) | (simp [*]; done), by repeat (first | exact Drawn0.refl _ | apply Drawn0.step)⟩
                                                  · rw [if_neg c40] at H
                                                    have c40b0 : (x6_16 == 4) = false := beq_eq_false_iff_ne.mpr c40
                                                    have c40b1 : (x6_16 != 4) = true := bne_iff_ne.mpr c40
                                                    by_cases c45 : x7_8 ≥ 55296
                                                    · rw [if_pos c45] at H
                                                      have c45b0 : decide (55296 ≤ x7_8) = true := decide_eq_true c45
                                                      clear c45
                                                      by_cases c46 : x7_8 ≤ 57343
                                                      · rw [if_pos c46] at H
                                                        have c46b0 : decide (x7_8 ≤ 57343) = true := decide_eq_true c46
                                                        clear c46
                                                        obtain rfl := Option.some.inj H
                                                        go_wp2
                                                        go_ret
                                                        exact ⟨by first | rfl | (simp; done) | (simp [*]; done), by repeat (first | exact Drawn0.refl _ | apply Drawn0.step)⟩
                                                      · rw [if_neg c46] at H
                                                        have c46b0 : decide (x7_8 ≤ 57343) = false := decide_eq_false c46
                                                        clear c46
                                                        obtain rfl := Option.some.inj H
                                                        go_wp2
                                                        go_ret
                                                        exact ⟨by first | rfl | (simp; done) | (simp [*]; done), by repeat (first | exact Drawn0.refl _ | apply Drawn0.step)⟩
                                                    · rw [if_neg c45] at H
                                                      have c45b0 : decide (55296 ≤ x7_8) = false := decide_eq_false c45
                                                      clear c45
                                                      obtain rfl := Option.some.inj H
                                                      go_wp2
                                                      go_ret
                                                      exact ⟨by first | rfl | (simp; done) | (simp [*]; done), by repeat (first | exact Drawn0.refl _ | apply Drawn0.step)⟩
                                            · rw [if_neg c29] at H
                                              have c29b0 : (x6_16 == 2) = false := beq_eq_false_iff_ne.mpr c29
                                              have c29b1 : (x6_16 != 2) = true := bne_iff_ne.mpr c29
                                              by_cases c47 : x6_16 = 3
                                              · rw [if_pos c47] at H
                                                have c47b0 : (x6_16 == 3) = true := beq_iff_eq.mpr c47
                                                have c47b1 : (x6_16 != 3) = false := bne_eq_false_iff_eq.mpr c47
                                                clear c47
                                                by_cases c48 : x7_8 < 2048
                                                · rw [if_pos c48] at H
                                                  have c48b0 : decide (x7_8 < 2048) = true := decide_eq_true c48
                                                  clear c48
                                                  obtain rfl := Option.some.inj H
                                                  go_wp2
                                                  go_ret
                                                  exact ⟨by first | rfl | (simp; done) | (simp [*]; done), by repeat (first | exact Drawn0.refl _ | apply Drawn0.step)⟩
                                                · rw [if_neg c48] at H
                                                  have c48b0 : decide (x7_8 < 2048) = false := decide_eq_false c48
                                                  clear c48
                                                  by_cases c49 : x6_16 = 4
                                                  · rw [if_pos c49] at H
                                                    have c49b0 : (x6_16 == 4) = true := beq_iff_eq.mpr c49
                                                    have c49b1 : (x6_16 != 4) = false := bne_eq_false_iff_eq.mpr c49
                                                    clear c49
                                                    by_cases c50 : x7_8 < 65536
                                                    · rw [if_pos c50] at H
                                                      have c50b0 : decide (x7_8 < 65536) = true := decide_eq_true c50
                                                      clear c50
                                                      obtain rfl := Option.some.inj H
                                                      go_wp2
                                                      go_ret
                                                      exact ⟨by first | rfl | (simp; done) | (simp [*]; done), by repeat (first | exact Drawn0.refl _ | apply Drawn0.step)⟩
                                                    · rw [if_neg c50] at H
                                                      have c50b0 : decide (x7_8 < 65536) = false := decide_eq_false c50
                                                      clear c50
                                                      by_cases c51 : x7_8 > 1114111
                                                      · rw [if_pos c51] at H
                                                        have c51b0 : decide (1114111 < x7_8) = true := decide_eq_true c51
                                                        clear c51
                                                        obtain rfl := Option.some.inj H
                                                        go_wp2
                                                        go_ret
                                                        exact ⟨by first | rfl | (simp; done) | (simp [*]; done), by repeat (first | exact Drawn0.refl _ | apply Drawn0.step)⟩
                                                      · rw [if_neg c51] at H
                                                        have c51b0 : decide (1114111 < x7_8) = false := decide_eq_false c51
                                                        clear c51
                                                        by_cases c52 : x7_8 ≥ 55296
                                                        · rw [if_pos c52] at H
                                                          have c52b0 : decide (55296 ≤ x7_8) = true := decide_eq_true c52
                                                          clear c52
                                                          by_cases c53 : x7_8 ≤ 57343
                                                          · rw [if_pos c53] at H
                                                            have c53b0 : decide (x7_8 ≤ 57343) = true := decide_eq_true c53
                                                            clear c53
                                                            obtain rfl := Option.some.inj H
                                                            go_wp2
                                                            go_ret
                                                            exact ⟨by first | rfl | (simp; done) | (simp [*]; done), by repeat (first | exact Drawn0.refl _ | apply Drawn0.step)⟩
                                                          · rw [if_neg c53] at H
                                                            have c53b0 : decide (x7_8 ≤ 57343) = false := decide_eq_false c53
                                                            clear c53
                                                            obtain rfl := Option.some.inj H
                                                            go_wp2
                                                            go_ret
                                                            exact ⟨by first | rfl | (simp; done) | (simp [*]; done), by repeat (first | exact Drawn0.refl _ | apply Drawn0.step)⟩
                                                        · rw [if_neg c52] at H
                                                          have c52b0 : decide (55296 ≤ x7_8) = false := decide_eq_false c52
                                                          clear c52
                                                          obtain rfl := Option.some.inj H
                                                          go_wp2
                                                          go_ret
                                                          exact ⟨by first | rfl | (simp; done) | (simp [*]; done), by repeat (first | exact Drawn0.refl _ | apply Drawn0.step)⟩
                                                  · rw [if_neg c49] at H
                                                    have c49b0 : (x6_16 == 4) = false := beq_eq_false_iff_ne.mpr c49
                                                    have c49b1 : (x6_16 != 4) = true := bne_iff_ne.mpr c49
                                                    by_cases c54 : x7_8 ≥ 55296
                                                    · rw [if_pos c54] at H
                                                      have c54b0 : decide (55296 ≤ x7_8) = true := decide_eq_true c54
                                                      clear c54
                                                      by_cases c55 : x7_8 ≤ 57343
                                                      · rw [if_pos c55] at H
                                                        have c55b0 : decide (x7_8 ≤ 57343) = true := decide_eq_true c55
                                                        clear c55
                                                        obtain rfl := Option.some.inj H
                                                        go_wp2
                                                        go_ret
                                                        exact ⟨by first | rfl | (simp; done) | (simp [*]; done), by repeat (first | exact Drawn0.refl _ | apply Drawn0.step)⟩
                                                      · rw [if_neg c55] at H
                                                        have c55b0 : decide (x7_8 ≤ 57343) = false := decide_eq_false c55
                                                        clear c55
                                                        obtain rfl := Option.some.inj H
                                                        go_wp2
                                                        go_ret
                                                        exact ⟨by first | rfl | (simp; done) | (simp [*]; done), by repeat (first | exact Drawn0.refl _ | apply Drawn0.step)⟩
                                                    · rw [if_neg c54] at H
                                                      have c54b0 : decide (55296 ≤ x7_8) = false := decide_eq_false c54
                                                      clear c54
                                                      obtain rfl := Option.some.inj H
                                                      go_wp2
                                                      go_ret
                                                      exact ⟨by first | rfl | (simp; done) | (simp [*]; done), by repeat (first | exact Drawn0.refl _ | apply Drawn0.step)⟩
                                              · rw [if_neg c47] at H
                                                have c47b0 : (x6_16 == 3) = false := beq_eq_false_iff_ne.mpr c47
                                                have c47b1 : (x6_16 != 3) = true := bne_iff_ne.mpr c47
                                                by_cases c56 : x6_16 = 4
                                                · rw [if_pos c56] at H
                                                  have c56b0 : (x6_16 == 4) = true := beq_iff_eq.mpr c56
                                                  have c56b1 : (x6_16 != 4) = false := bne_eq_false_iff_eq.mpr c56
                                                  clear c56
                                                  by_cases c57 : x7_8 < 65536
                                                  · rw [if_pos c57] at H
                                                    have c57b0 : decide (x7_8 < 65536) = true := decide_eq_true c57
                                                    clear c57
                                                    obtain rfl := Option.some.inj H
                                                    go_wp2
                                                    go_ret
                                                    exact ⟨by first | rfl | (simp; done) | (simp [*]; done), by repeat (first | exact Drawn0.refl _ | apply Drawn0.step)⟩
                                                  · rw [if_neg c57] at H
                                                    have c57b0 : decide (x7_8 < 65536) = false := decide_eq_false c57
                                                    clear c57
                                                    by_cases c58 : x7_8 > 1114111
                                                    · rw [if_pos c58] at H
                                                      have c58b0 : decide (1114111 < x7_8) = true := decide_eq_true c58
                                                      clear c58
                                                      obtain rfl := Option.some.inj H
                                                      go_wp2
                                                      go_ret
                                                      exact ⟨by first | rfl | (simp; done) | (simp [*]; done), by repeat (first | exact Drawn0.refl _ | apply Drawn0.step)⟩
                                                    · rw [if_neg c58] at H
                                                      have c58b0 : decide (1114111 < x7_8) = false := decide_eq_false c58
                                                      clear c58
                                                      by_cases c59 : x7_8 ≥ 55296
                                                      · rw [if_pos c59] at H
                                                        have c59b0 : decide (55296 ≤ x7_8) = true := decide_eq_true c59
                                                        clear c59
                                                        by_cases c60 : x7_8 ≤ 57343
                                                        · rw [if_pos c60] at H
                                                          have c60b0 : decide (x7_8 ≤ 57343) = true := decide_eq_true c60
                                                          clear c60
                                                          obtain rfl := Option.some.inj H
                                                          go_wp2
                                                          go_ret
                                                          exact ⟨by first | rfl | (simp; done) | (simp [*]; done), by repeat (first | exact Drawn0.refl _ | apply Drawn0.step)⟩
                                                        · rw [if_neg c60] at H
                                                          have c60b0 : decide (x7_8 ≤ 57343) = false := decide_eq_false c60
                                                          clear c60
                                                          obtain rfl := Option.some.inj H
                                                          go_wp2
                                                          go_ret
                                                          exact ⟨by first | rfl | (simp; done) | (simp [*]; done), by repeat (first | exact Drawn0.refl _ | apply Drawn0.step)⟩
                                                      · rw [if_neg c59] at H
                                                        have c59b0 : decide (55296 ≤ x7_8) = false := decide_eq_false c59
                                                        clear c59
                                                        obtain rfl := Option.some.inj H
                                                        go_wp2
                                                        go_ret
                                                        exact ⟨by first | rfl | (simp; done) | (simp [*]; done), by repeat (first | exact Drawn0.refl _ | apply Drawn0.step)⟩
                                                · rw [if_neg c56] at H
                                                  have c56b0 : (x6_16 == 4) = false := beq_eq_false_iff_ne.mpr c56
                                                  have c56b1 : (x6_16 != 4) = true := bne_iff_ne.mpr c56
                                                  by_cases c61 : x7_8 ≥ 55296
                                                  · rw [if_pos c61] at H
                                                    have c61b0 : decide (55296 ≤ x7_8) = true := decide_eq_true c61
                                                    clear c61
                                                    by_cases c62 : x7_8 ≤ 57343
                                                    · rw [if_pos c62] at H
                                                      have c62b0 : decide (x7_8 ≤ 57343) = true := decide_eq_true c62
                                                      clear c62
                                                      obtain rfl := Option.some.inj H
                                                      go_wp2
                                                      go_ret
                                                      exact ⟨by first | rfl | (simp; done) | (simp [*]; done), by repeat (first | exact Drawn0.refl _ | apply Drawn0.step)⟩
                                                    · rw [if_neg c62] at H
                                                      have c62b0 : decide (x7_8 ≤ 57343) = false := decide_eq_false c62
                                                      clear c62
                                                      obtain rfl := Option.some.inj H
                                                      go_wp2
                                                      go_ret
                                                      exact ⟨by first | rfl | (simp; done) | (simp [*]; done), by repeat (first | exact Drawn0.refl _ | apply Drawn0.step)⟩
                                                  · rw [if_neg c61] at H
                                                    have c61b0 : decide (55296 ≤ x7_8) = false := decide_eq_false c61
                                                    clear c61
                                                    obtain rfl := Option.some.inj H
                                                    go_wp2
                                                    go_ret
                                                    exact ⟨by first | rfl | (simp; done) | (simp [*]; done), by repeat (first | exact Drawn0.refl _ | apply Drawn0.step)⟩
    · rw [if_neg c4] at H
      exact absurd H (by simp)
  · rw [if_neg c3] at H
    exact absurd H (by simp)

end Go.Proofs.Ytjookjdpfbflkaa.PA
