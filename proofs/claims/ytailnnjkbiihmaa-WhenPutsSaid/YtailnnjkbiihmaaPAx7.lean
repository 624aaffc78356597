-- Written by a program of this session (print2, a turned print): not PRINTED BY print.sh
import Derived.Test.YtailnnjkbiihmaaPAx0
import Derived.Test.YtailnnjkbiihmaaPAx2
import Derived.Test.YtailnnjkbiihmaaPAx3
import Derived.Test.YtailnnjkbiihmaaPAx4
import Derived.Test.YtailnnjkbiihmaaPAx5
namespace Go.Proofs.Ytailnnjkbiihmaa.PA
open Go.RowKit Go.Proofs.YtailnnjkbiihmaaW.PrintWords Go.Proofs.YtailnnjkbiihmaaW.PrintLast Go.Proofs.YtailnnjkbiihmaaW.PrintMore
attribute [local go_sem] max2_int min2_int max_two min_two max_three min_three max_four min_four   -- for this text's walks alone
set_option linter.unusedVariables false
set_option linter.unusedSimpArgs false

/-! ### gantletlaw13_WhenPuts: function 4 -/
mutual
def gantletlaw13_WhenPuts.j0 : Nat → ByteArray → Int → ByteArray → Bool → Option (Bool)
  | 0, _, _, _, _ => none
  | k + 1, x0, x1, x2, x24 => if x24 = true then ((gantletlaw13_awake.f k).bind fun t183 => (some t183)) else ((when_Put.f k x0).bind fun bt184 => ((when_Get.f k x1 x2).bind fun bt187 => ((gantletref13_Date.f k x0).bind fun t189 => (if t189 = true then (gantletlaw13_WhenPuts.j1 k x0 x1 x2 bt184.1 bt184.2.1 bt184.2.2 bt187.1 bt187.2 (!(Op.bytesLess x0.toList ([49, 57, 53, 48] : List UInt8)))) else (gantletlaw13_WhenPuts.j1 k x0 x1 x2 bt184.1 bt184.2.1 bt184.2.2 bt187.1 bt187.2 false)))))
def gantletlaw13_WhenPuts.j1 : Nat → ByteArray → Int → ByteArray → Int → ByteArray → Bool → ByteArray → Bool → Bool → Option (Bool)
  | 0, _, _, _, _, _, _, _, _, _ => none
  | k + 1, x0, x1, x2, x7, x8, x9, x10, x11, x12 => if (x9 != x12) = true then (gantletlaw13_WhenPuts.j2 k x0 x1 x2 x7 x8 x9 x10 x11 true) else ((gantletref13_Right.f k x1 x2).bind fun t190 => (gantletlaw13_WhenPuts.j2 k x0 x1 x2 x7 x8 x9 x10 x11 (x11 != t190)))
def gantletlaw13_WhenPuts.j2 : Nat → ByteArray → Int → ByteArray → Int → ByteArray → Bool → ByteArray → Bool → Bool → Option (Bool)
  | 0, _, _, _, _, _, _, _, _, _ => none
  | k + 1, x0, x1, x2, x7, x8, x9, x10, x11, x53 => if x53 = true then (none) else (if x11 = true then ((gantletref13_Full.f x1 x2).bind fun t191 => (if x10.toList = t191.toList then (gantletlaw13_WhenPuts.j3 k x0 x7 x8 x9 false) else (gantletlaw13_WhenPuts.j3 k x0 x7 x8 x9 true))) else (gantletlaw13_WhenPuts.j3 k x0 x7 x8 x9 (x10.toList != ([] : List UInt8))))
def gantletlaw13_WhenPuts.j3 : Nat → ByteArray → Int → ByteArray → Bool → Bool → Option (Bool)
  | 0, _, _, _, _, _ => none
  | k + 1, x0, x7, x8, x9, x69 => if x69 = true then (none) else (if x9 = true then (if ((Op.bytesLess x0.toList ([50, 48, 53, 48] : List UInt8)) = true) then (if x7 = 23 then (if 2 ≤ (x0.size : Int) then (if (x0.extract 2 x0.size).size + 1 ≤ 9223372036854775807 then (some (x8.toList == ((x0.extract 2 x0.size) ++ (⟨#[90]⟩ : ByteArray)).toList)) else (none)) else (none)) else (none)) else (if x7 = 24 then (if x0.size + 1 ≤ 9223372036854775807 then (some (x8.toList == (x0 ++ (⟨#[90]⟩ : ByteArray)).toList)) else (none)) else (none))) else (if x7 = 0 then (some (x8.toList == ([] : List UInt8))) else (none)))
end
def gantletlaw13_WhenPuts.f (k : Nat) (a0 : ByteArray) (a1 : Int) (a2 : ByteArray) : Option (Bool) := (gantletlaw13_awake.f k).bind fun t182 => (if t182 = true then (if (a0.size : Int) > 100 then (gantletlaw13_WhenPuts.j0 k a0 a1 a2 true) else (gantletlaw13_WhenPuts.j0 k a0 a1 a2 (decide ((a2.size : Int) > 100)))) else (gantletlaw13_WhenPuts.j0 k a0 a1 a2 true))
theorem gantletlaw13_WhenPuts.mono_l : ∀ k, (∀ y0 y1 y2 y3, LeO (gantletlaw13_WhenPuts.j0 k y0 y1 y2 y3) (gantletlaw13_WhenPuts.j0 (k + 1) y0 y1 y2 y3)) ∧ (∀ y0 y1 y2 y3 y4 y5 y6 y7 y8, LeO (gantletlaw13_WhenPuts.j1 k y0 y1 y2 y3 y4 y5 y6 y7 y8) (gantletlaw13_WhenPuts.j1 (k + 1) y0 y1 y2 y3 y4 y5 y6 y7 y8)) ∧ (∀ y0 y1 y2 y3 y4 y5 y6 y7 y8, LeO (gantletlaw13_WhenPuts.j2 k y0 y1 y2 y3 y4 y5 y6 y7 y8) (gantletlaw13_WhenPuts.j2 (k + 1) y0 y1 y2 y3 y4 y5 y6 y7 y8)) ∧ (∀ y0 y1 y2 y3 y4, LeO (gantletlaw13_WhenPuts.j3 k y0 y1 y2 y3 y4) (gantletlaw13_WhenPuts.j3 (k + 1) y0 y1 y2 y3 y4))
  | 0 => ⟨fun _ _ _ _ r h => by simp [gantletlaw13_WhenPuts.j0] at h, fun _ _ _ _ _ _ _ _ _ r h => by simp [gantletlaw13_WhenPuts.j1] at h, fun _ _ _ _ _ _ _ _ _ r h => by simp [gantletlaw13_WhenPuts.j2] at h, fun _ _ _ _ _ r h => by simp [gantletlaw13_WhenPuts.j3] at h⟩
  | k + 1 => by
    obtain ⟨ih0, ih1, ih2, ih3⟩ := gantletlaw13_WhenPuts.mono_l k
    refine ⟨?_, ?_, ?_, ?_⟩
    · intro y0 y1 y2 y3
      unfold gantletlaw13_WhenPuts.j0
      repeat' first
      | (with_reducible exact ih0 _ _ _ _)
      | (with_reducible exact ih1 _ _ _ _ _ _ _ _ _)
      | (with_reducible exact ih2 _ _ _ _ _ _ _ _ _)
      | (with_reducible exact ih3 _ _ _ _ _)
      | (with_reducible exact gantletlaw13_awake.mono _)
      | (with_reducible exact gantletref13_Date.mono _ _)
      | (with_reducible exact gantletref13_Right.mono _ _ _)
      | (with_reducible exact when_Get.mono _ _ _)
      | (with_reducible exact when_Put.mono _ _)
      | (with_reducible exact LeO.refl _)
      | (with_reducible exact LeO.none _)
      | (with_reducible refine LeO.ite ?_ ?_)
      | (with_reducible refine LeO.bind ?_ (fun _ => ?_))
      | exact ih0 _ _ _ _
      | exact ih1 _ _ _ _ _ _ _ _ _
      | exact ih2 _ _ _ _ _ _ _ _ _
      | exact ih3 _ _ _ _ _
      | exact gantletlaw13_awake.mono _
      | exact gantletref13_Date.mono _ _
      | exact gantletref13_Right.mono _ _ _
      | exact when_Get.mono _ _ _
      | exact when_Put.mono _ _
      | exact LeO.none _
      | refine LeO.ite ?_ ?_
      | refine LeO.bind ?_ (fun _ => ?_)
    · intro y0 y1 y2 y3 y4 y5 y6 y7 y8
      unfold gantletlaw13_WhenPuts.j1
      repeat' first
      | (with_reducible exact ih0 _ _ _ _)
      | (with_reducible exact ih1 _ _ _ _ _ _ _ _ _)
      | (with_reducible exact ih2 _ _ _ _ _ _ _ _ _)
      | (with_reducible exact ih3 _ _ _ _ _)
      | (with_reducible exact gantletlaw13_awake.mono _)
      | (with_reducible exact gantletref13_Date.mono _ _)
      | (with_reducible exact gantletref13_Right.mono _ _ _)
      | (with_reducible exact when_Get.mono _ _ _)
      | (with_reducible exact when_Put.mono _ _)
      | (with_reducible exact LeO.refl _)
      | (with_reducible exact LeO.none _)
      | (with_reducible refine LeO.ite ?_ ?_)
      | (with_reducible refine LeO.bind ?_ (fun _ => ?_))
      | exact ih0 _ _ _ _
      | exact ih1 _ _ _ _ _ _ _ _ _
      | exact ih2 _ _ _ _ _ _ _ _ _
      | exact ih3 _ _ _ _ _
      | exact gantletlaw13_awake.mono _
      | exact gantletref13_Date.mono _ _
      | exact gantletref13_Right.mono _ _ _
      | exact when_Get.mono _ _ _
      | exact when_Put.mono _ _
      | exact LeO.none _
      | refine LeO.ite ?_ ?_
      | refine LeO.bind ?_ (fun _ => ?_)
    · intro y0 y1 y2 y3 y4 y5 y6 y7 y8
      unfold gantletlaw13_WhenPuts.j2
      repeat' first
      | (with_reducible exact ih0 _ _ _ _)
      | (with_reducible exact ih1 _ _ _ _ _ _ _ _ _)
      | (with_reducible exact ih2 _ _ _ _ _ _ _ _ _)
      | (with_reducible exact ih3 _ _ _ _ _)
      | (with_reducible exact gantletlaw13_awake.mono _)
      | (with_reducible exact gantletref13_Date.mono _ _)
      | (with_reducible exact gantletref13_Right.mono _ _ _)
      | (with_reducible exact when_Get.mono _ _ _)
      | (with_reducible exact when_Put.mono _ _)
      | (with_reducible exact LeO.refl _)
      | (with_reducible exact LeO.none _)
      | (with_reducible refine LeO.ite ?_ ?_)
      | (with_reducible refine LeO.bind ?_ (fun _ => ?_))
      | exact ih0 _ _ _ _
      | exact ih1 _ _ _ _ _ _ _ _ _
      | exact ih2 _ _ _ _ _ _ _ _ _
      | exact ih3 _ _ _ _ _
      | exact gantletlaw13_awake.mono _
      | exact gantletref13_Date.mono _ _
      | exact gantletref13_Right.mono _ _ _
      | exact when_Get.mono _ _ _
      | exact when_Put.mono _ _
      | exact LeO.none _
      | refine LeO.ite ?_ ?_
      | refine LeO.bind ?_ (fun _ => ?_)
    · intro y0 y1 y2 y3 y4
      unfold gantletlaw13_WhenPuts.j3
      repeat' first
      | (with_reducible exact ih0 _ _ _ _)
      | (with_reducible exact ih1 _ _ _ _ _ _ _ _ _)
      | (with_reducible exact ih2 _ _ _ _ _ _ _ _ _)
      | (with_reducible exact ih3 _ _ _ _ _)
      | (with_reducible exact gantletlaw13_awake.mono _)
      | (with_reducible exact gantletref13_Date.mono _ _)
      | (with_reducible exact gantletref13_Right.mono _ _ _)
      | (with_reducible exact when_Get.mono _ _ _)
      | (with_reducible exact when_Put.mono _ _)
      | (with_reducible exact LeO.refl _)
      | (with_reducible exact LeO.none _)
      | (with_reducible refine LeO.ite ?_ ?_)
      | (with_reducible refine LeO.bind ?_ (fun _ => ?_))
      | exact ih0 _ _ _ _
      | exact ih1 _ _ _ _ _ _ _ _ _
      | exact ih2 _ _ _ _ _ _ _ _ _
      | exact ih3 _ _ _ _ _
      | exact gantletlaw13_awake.mono _
      | exact gantletref13_Date.mono _ _
      | exact gantletref13_Right.mono _ _ _
      | exact when_Get.mono _ _ _
      | exact when_Put.mono _ _
      | exact LeO.none _
      | refine LeO.ite ?_ ?_
      | refine LeO.bind ?_ (fun _ => ?_)
theorem gantletlaw13_WhenPuts.mono : ∀ a0 a1 a2 k, LeO (gantletlaw13_WhenPuts.f k a0 a1 a2) (gantletlaw13_WhenPuts.f (k + 1) a0 a1 a2) := by
  intro a0 a1 a2 k
  obtain ⟨ih0, ih1, ih2, ih3⟩ := gantletlaw13_WhenPuts.mono_l k
  unfold gantletlaw13_WhenPuts.f
  repeat' first
      | (with_reducible exact ih0 _ _ _ _)
      | (with_reducible exact ih1 _ _ _ _ _ _ _ _ _)
      | (with_reducible exact ih2 _ _ _ _ _ _ _ _ _)
      | (with_reducible exact ih3 _ _ _ _ _)
      | (with_reducible exact gantletlaw13_awake.mono _)
      | (with_reducible exact gantletref13_Date.mono _ _)
      | (with_reducible exact gantletref13_Right.mono _ _ _)
      | (with_reducible exact when_Get.mono _ _ _)
      | (with_reducible exact when_Put.mono _ _)
      | (with_reducible exact LeO.refl _)
      | (with_reducible exact LeO.none _)
      | (with_reducible refine LeO.ite ?_ ?_)
      | (with_reducible refine LeO.bind ?_ (fun _ => ?_))
      | exact ih0 _ _ _ _
      | exact ih1 _ _ _ _ _ _ _ _ _
      | exact ih2 _ _ _ _ _ _ _ _ _
      | exact ih3 _ _ _ _ _
      | exact gantletlaw13_awake.mono _
      | exact gantletref13_Date.mono _ _
      | exact gantletref13_Right.mono _ _ _
      | exact when_Get.mono _ _ _
      | exact when_Put.mono _ _
      | exact LeO.none _
      | refine LeO.ite ?_ ?_
      | refine LeO.bind ?_ (fun _ => ?_)
set_option maxHeartbeats 8000000 in
set_option maxRecDepth 100000 in
theorem gantletlaw13_WhenPuts.calls (k : Nat) (a0 : ByteArray) (a1 : Int) (a2 : ByteArray) (r : Bool) (w : World) (h : gantletlaw13_WhenPuts.f k a0 a1 a2 = some r) :
    Calls Try.prog 4 #[.string a0, .int .i64 a1, .string a2] w fun e w' => e = .returned (.bool r) ∧ Below w.heap.size w w' := by
  have HB := Aside0.mk (Below.refl w.heap.size w)
  have H : ((gantletlaw13_awake.f k).bind fun t182 => (if t182 = true then (if (a0.size : Int) > 100 then (gantletlaw13_WhenPuts.j0 k a0 a1 a2 true) else (gantletlaw13_WhenPuts.j0 k a0 a1 a2 (decide ((a2.size : Int) > 100)))) else (gantletlaw13_WhenPuts.j0 k a0 a1 a2 true))) = some r := h
  clear h
  have HC4 := Aside0.mk H
  clear H
  go_enter Try.func4, Try.ntmps4
  go_upto_region 1 with (fail)
  go_cut [24] (fun v24 wc => ∃ (kq : Nat) (x24_3 : Bool), v24 = .bool x24_3 ∧ Aside0 (gantletlaw13_WhenPuts.j0 kq a0 a1 a2 x24_3 = some r) ∧ Aside0 (kq ≤ k) ∧ Aside0 (Below w.heap.size w wc))
  case first =>
    have H := HC4.out
    clear HC4
    replace H := Option.bind_eq_some_iff.mp H
    obtain ⟨t182, A50, H⟩ := H
    replace H : (if t182 = true then (if (a0.size : Int) > 100 then (gantletlaw13_WhenPuts.j0 k a0 a1 a2 true) else (gantletlaw13_WhenPuts.j0 k a0 a1 a2 (decide ((a2.size : Int) > 100)))) else (gantletlaw13_WhenPuts.j0 k a0 a1 a2 true)) = some r := H
    have A5 := Aside0.mk A50
    clear A50
    by_cases c6 : t182 = true
    · subst c6
      have H1 : (if (a0.size : Int) > 100 then (gantletlaw13_WhenPuts.j0 k a0 a1 a2 true) else (gantletlaw13_WhenPuts.j0 k a0 a1 a2 (decide ((a2.size : Int) > 100)))) = some r := by rw [if_pos rfl] at H; exact H
      clear H
      have H := H1
      clear H1
      by_cases c7 : (a0.size : Int) > 100
      · rw [if_pos c7] at H
        have c7b0 : decide (100 < (a0.size : Int)) = true := decide_eq_true c7
        have c7b1 : decide (100 < a0.size) = true := decide_eq_true (by omega)
        clear c7
        (first | rw [c7b0] | (simp only [i64_w, i32_w]; rw [c7b0]) | skip)
        have H' := Aside0.mk H
        clear H
        go_wp2_with (first | ((with_reducible refine gate_callee (f := 9) rfl ?_); refine goesL_ (some 13) rfl rfl Try.func9 (by kernel_rfl) rfl #[] rfl (by (try simp only [List.map_toArray, List.map_cons, List.map_nil]); first | done | rfl | (simp only [List.length_drop, List.length_take]; rfl)) ?_; (with_reducible refine (gantletlaw13_awake.calls k  true _ A5.out).mono ?_); rintro e w8 ⟨rfl, hb⟩; refine ⟨_, rfl, ?_⟩; have n0_ := Aside0.mk (below_step (by repeat (first | (with_reducible first | exact HB.out | apply below_alloc | apply pw_below_drewN | apply below_drew1) | exact HB.out)) hb); clear HB; have HB := n0_; clear n0_; (try clear hb); (try clear hb2); (try clear hk); (try clear hi)))
        go_meet
        case rel => exact ⟨_, (true), (by first | rfl | (simp; done) | (simp [*]; done)), H', ⟨by first | omega | exact Nat.le_refl _⟩, ⟨by repeat (first | (with_reducible first | exact HB.out | apply below_alloc | apply pw_below_drewN | apply below_drew1) | exact HB.out)⟩⟩
      · rw [if_neg c7] at H
        have c7b0 : decide (100 < (a0.size : Int)) = false := decide_eq_false c7
        have c7b1 : decide (100 < a0.size) = false := decide_eq_false (by omega)
        clear c7
        (first | rw [c7b0] | (simp only [i64_w, i32_w]; rw [c7b0]) | skip)
        have H' := Aside0.mk H
        clear H
        go_wp2_with (first | ((with_reducible refine gate_callee (f := 9) rfl ?_); refine goesL_ (some 13) rfl rfl Try.func9 (by kernel_rfl) rfl #[] rfl (by (try simp only [List.map_toArray, List.map_cons, List.map_nil]); first | done | rfl | (simp only [List.length_drop, List.length_take]; rfl)) ?_; (with_reducible refine (gantletlaw13_awake.calls k  true _ A5.out).mono ?_); rintro e w9 ⟨rfl, hb⟩; refine ⟨_, rfl, ?_⟩; have n0_ := Aside0.mk (below_step (by repeat (first | (with_reducible first | exact HB.out | apply below_alloc | apply pw_below_drewN | apply below_drew1) | exact HB.out)) hb); clear HB; have HB := n0_; clear n0_; (try clear hb); (try clear hb2); (try clear hk); (try clear hi)))
        go_meet
        case rel => exact ⟨_, (decide ((a2.size : Int) > 100)), (by first | rfl | (simp; done) | (simp [*]; done)), H', ⟨by first | omega | exact Nat.le_refl _⟩, ⟨by repeat (first | (with_reducible first | exact HB.out | apply below_alloc | apply pw_below_drewN | apply below_drew1) | exact HB.out)⟩⟩
    · replace c6 := Bool.eq_false_iff.mpr c6
      subst c6
      have H1 : (gantletlaw13_WhenPuts.j0 k a0 a1 a2 true) = some r := by rw [if_neg (show ¬ (false = true) by decide)] at H; exact H
      clear H
      have H := H1
      clear H1
      have H' := Aside0.mk H
      clear H
      go_wp2_with (first | ((with_reducible refine gate_callee (f := 9) rfl ?_); refine goesL_ (some 13) rfl rfl Try.func9 (by kernel_rfl) rfl #[] rfl (by (try simp only [List.map_toArray, List.map_cons, List.map_nil]); first | done | rfl | (simp only [List.length_drop, List.length_take]; rfl)) ?_; (with_reducible refine (gantletlaw13_awake.calls k  false _ A5.out).mono ?_); rintro e w10 ⟨rfl, hb⟩; refine ⟨_, rfl, ?_⟩; have n0_ := Aside0.mk (below_step (by repeat (first | (with_reducible first | exact HB.out | apply below_alloc | apply pw_below_drewN | apply below_drew1) | exact HB.out)) hb); clear HB; have HB := n0_; clear n0_; (try clear hb); (try clear hb2); (try clear hk); (try clear hi)))
      go_meet
      case rel => exact ⟨_, (true), (by first | rfl | (simp; done) | (simp [*]; done)), H', ⟨by first | omega | exact Nat.le_refl _⟩, ⟨by repeat (first | (with_reducible first | exact HB.out | apply below_alloc | apply pw_below_drewN | apply below_drew1) | exact HB.out)⟩⟩
  case rest =>
    clear HC4
    try clear p2
    try clear c4
    try clear c6
    try clear c7
    try clear c7b0
    try clear c7b1
    try clear c9
    obtain ⟨kq, x24_3, rfl, HA, HJ3, HB⟩ := hcut
    cases kq with
    | zero => exact absurd HA.out (by simp [gantletlaw13_WhenPuts.j0])
    | succ kj3 =>
      have H := HA.out
      clear HA
      simp only [gantletlaw13_WhenPuts.j0] at H
      by_cases c11 : x24_3 = true
      · subst c11
        have H1 : ((gantletlaw13_awake.f kj3).bind fun t183 => (some t183)) = some r := by rw [if_pos rfl] at H; exact H
        clear H
        have H := H1
        clear H1
        replace H := Option.bind_eq_some_iff.mp H
        obtain ⟨t183, A120, H⟩ := H
        replace H : (some t183) = some r := H
        have A12 := Aside0.mk A120
        clear A120
        obtain rfl := Option.some.inj H
        go_wp2_with (first | ((with_reducible refine gate_callee (f := 9) rfl ?_); refine goesL_ (some 25) rfl rfl Try.func9 (by kernel_rfl) rfl #[] rfl (by (try simp only [List.map_toArray, List.map_cons, List.map_nil]); first | done | rfl | (simp only [List.length_drop, List.length_take]; rfl)) ?_; (with_reducible refine (gantletlaw13_awake.calls kj3  t183 _ A12.out).mono ?_); rintro e w13 ⟨rfl, hb⟩; refine ⟨_, rfl, ?_⟩; have n0_ := Aside0.mk (below_step (by repeat (first | (with_reducible first | exact HB.out | apply below_alloc | apply pw_below_drewN | apply below_drew1) | exact HB.out)) hb); clear HB; have HB := n0_; clear n0_; (try clear hb); (try clear hb2); (try clear hk); (try clear hi)))
        go_ret
        exact ⟨by first | rfl | (simp [errW_none, errW_some] <;> rfl) | (simp [*, errW_none, errW_some] <;> rfl), by repeat (first | (with_reducible first | exact HB.out | apply below_alloc | apply pw_below_drewN | apply below_drew1) | exact HB.out)⟩
      · replace c11 := Bool.eq_false_iff.mpr c11
        subst c11
        have H1 : ((when_Put.f kj3 a0).bind fun bt184 => ((when_Get.f kj3 a1 a2).bind fun bt187 => ((gantletref13_Date.f kj3 a0).bind fun t189 => (if t189 = true then (gantletlaw13_WhenPuts.j1 kj3 a0 a1 a2 bt184.1 bt184.2.1 bt184.2.2 bt187.1 bt187.2 (!(Op.bytesLess a0.toList ([49, 57, 53, 48] : List UInt8)))) else (gantletlaw13_WhenPuts.j1 kj3 a0 a1 a2 bt184.1 bt184.2.1 bt184.2.2 bt187.1 bt187.2 false))))) = some r := by rw [if_neg (show ¬ (false = true) by decide)] at H; exact H
        clear H
        have H := H1
        clear H1
        replace H := Option.bind_eq_some_iff.mp H
        obtain ⟨⟨t184, t185, t186⟩, A140, H⟩ := H
        replace H : ((when_Get.f kj3 a1 a2).bind fun bt187 => ((gantletref13_Date.f kj3 a0).bind fun t189 => (if t189 = true then (gantletlaw13_WhenPuts.j1 kj3 a0 a1 a2 t184 t185 t186 bt187.1 bt187.2 (!(Op.bytesLess a0.toList ([49, 57, 53, 48] : List UInt8)))) else (gantletlaw13_WhenPuts.j1 kj3 a0 a1 a2 t184 t185 t186 bt187.1 bt187.2 false)))) = some r := H
        have A14 := Aside0.mk A140
        clear A140
        replace H := Option.bind_eq_some_iff.mp H
        obtain ⟨⟨t187, t188⟩, A150, H⟩ := H
        replace H : ((gantletref13_Date.f kj3 a0).bind fun t189 => (if t189 = true then (gantletlaw13_WhenPuts.j1 kj3 a0 a1 a2 t184 t185 t186 t187 t188 (!(Op.bytesLess a0.toList ([49, 57, 53, 48] : List UInt8)))) else (gantletlaw13_WhenPuts.j1 kj3 a0 a1 a2 t184 t185 t186 t187 t188 false))) = some r := H
        have A15 := Aside0.mk A150
        clear A150
        have HC16 := Aside0.mk H
        clear H
        go_upto_region 5 with (first | ((with_reducible refine gate_callee (f := 13) rfl ?_); refine goesL_ (some 28) rfl rfl Try.func13 (by kernel_rfl) rfl #[.string a0] rfl (by (try simp only [List.map_toArray, List.map_cons, List.map_nil]); first | done | rfl | (simp only [List.length_drop, List.length_take]; rfl)) ?_; (with_reducible refine (when_Put.calls kj3 a0 t184 t185 t186 _ A14.out).mono ?_); rintro e w17 ⟨rfl, hb⟩; refine ⟨_, rfl, ?_⟩; have n0_ := Aside0.mk (below_step (by repeat (first | (with_reducible first | exact HB.out | apply below_alloc | apply pw_below_drewN | apply below_drew1) | exact HB.out)) hb); clear HB; have HB := n0_; clear n0_; (try clear hb); (try clear hb2); (try clear hk); (try clear hi)) | ((with_reducible refine gate_callee (f := 14) rfl ?_); refine goesL_ (some 35) rfl rfl Try.func14 (by kernel_rfl) rfl #[.int .i64 a1, .string a2] rfl (by (try simp only [List.map_toArray, List.map_cons, List.map_nil]); first | done | rfl | (simp only [List.length_drop, List.length_take]; rfl)) ?_; (with_reducible refine (when_Get.calls kj3 a1 a2 t187 t188 _ A15.out).mono ?_); rintro e w18 ⟨rfl, hb⟩; refine ⟨_, rfl, ?_⟩; have n0_ := Aside0.mk (below_step (by repeat (first | (with_reducible first | exact HB.out | apply below_alloc | apply pw_below_drewN | apply below_drew1) | exact HB.out)) hb); clear HB; have HB := n0_; clear n0_; (try clear hb); (try clear hb2); (try clear hk); (try clear hi)))
        (try simp only [Act.put, List.setIfInBounds_toArray, List.set_cons_zero, List.set_cons_succ])
        go_cut [12] (fun v12 wc => ∃ (kq : Nat) (x12_15 : Bool), v12 = .bool x12_15 ∧ Aside0 (gantletlaw13_WhenPuts.j1 kq a0 a1 a2 t184 t185 t186 t187 t188 x12_15 = some r) ∧ Aside0 (kq ≤ kj3) ∧ Aside0 (Below w.heap.size w wc))
        case first =>
          have H := HC16.out
          clear HC16
          replace H := Option.bind_eq_some_iff.mp H
          obtain ⟨t189, A190, H⟩ := H
          replace H : (if t189 = true then (gantletlaw13_WhenPuts.j1 kj3 a0 a1 a2 t184 t185 t186 t187 t188 (!(Op.bytesLess a0.toList ([49, 57, 53, 48] : List UInt8)))) else (gantletlaw13_WhenPuts.j1 kj3 a0 a1 a2 t184 t185 t186 t187 t188 false)) = some r := H
          have A19 := Aside0.mk A190
          clear A190
          by_cases c20 : t189 = true
          · subst c20
            have H1 : (gantletlaw13_WhenPuts.j1 kj3 a0 a1 a2 t184 t185 t186 t187 t188 (!(Op.bytesLess a0.toList ([49, 57, 53, 48] : List UInt8)))) = some r := by rw [if_pos rfl] at H; exact H
            clear H
            have H := H1
            clear H1
            have H' := Aside0.mk H
            clear H
            go_wp2_with (first | ((with_reducible refine gate_callee (f := 15) rfl ?_); refine goesL_ (some 39) rfl rfl Try.func15 (by kernel_rfl) rfl #[.string a0] rfl (by (try simp only [List.map_toArray, List.map_cons, List.map_nil]); first | done | rfl | (simp only [List.length_drop, List.length_take]; rfl)) ?_; (with_reducible refine (gantletref13_Date.calls kj3 a0 true _ A19.out).mono ?_); rintro e w' ⟨rfl, ⟨nd, rfl⟩⟩; refine ⟨_, rfl, ?_⟩))
            go_meet
            case rel => exact ⟨_, (!(Op.bytesLess a0.toList ([49, 57, 53, 48] : List UInt8))), (by first | rfl | (simp; done) | (simp [*]; done)), H', ⟨by have := HJ3.out; first | omega | exact Nat.le_refl _⟩, ⟨by repeat (first | (with_reducible first | exact HB.out | apply below_alloc | apply pw_below_drewN | apply below_drew1) | exact HB.out)⟩⟩
          · replace c20 := Bool.eq_false_iff.mpr c20
            subst c20
            have H1 : (gantletlaw13_WhenPuts.j1 kj3 a0 a1 a2 t184 t185 t186 t187 t188 false) = some r := by rw [if_neg (show ¬ (false = true) by decide)] at H; exact H
            clear H
            have H := H1
            clear H1
            have H' := Aside0.mk H
            clear H
            go_wp2_with (first | ((with_reducible refine gate_callee (f := 15) rfl ?_); refine goesL_ (some 39) rfl rfl Try.func15 (by kernel_rfl) rfl #[.string a0] rfl (by (try simp only [List.map_toArray, List.map_cons, List.map_nil]); first | done | rfl | (simp only [List.length_drop, List.length_take]; rfl)) ?_; (with_reducible refine (gantletref13_Date.calls kj3 a0 false _ A19.out).mono ?_); rintro e w' ⟨rfl, ⟨nd, rfl⟩⟩; refine ⟨_, rfl, ?_⟩))
            go_meet
            case rel => exact ⟨_, (false), (by first | rfl | (simp; done) | (simp [*]; done)), H', ⟨by have := HJ3.out; first | omega | exact Nat.le_refl _⟩, ⟨by repeat (first | (with_reducible first | exact HB.out | apply below_alloc | apply pw_below_drewN | apply below_drew1) | exact HB.out)⟩⟩
        case rest =>
          clear HC16
          try clear c1
          try clear c2
          try clear p2
          try clear c4
          try clear c6
          try clear c7
          try clear c7b0
          try clear c7b1
          try clear c9
          try clear c11
          try clear c13
          try clear c14
          try clear c15
          try clear c20
          try clear p2
          obtain ⟨kq, x12_15, rfl, HA, HJ15, HB⟩ := hcut
          cases kq with
          | zero => exact absurd HA.out (by simp [gantletlaw13_WhenPuts.j1])
          | succ kj15 =>
            have H := HA.out
            clear HA
            simp only [gantletlaw13_WhenPuts.j1] at H
            have HC21 := Aside0.mk H
            clear H
            go_upto_region 6 with (fail)
            go_cut [53] (fun v53 wc => ∃ (kq : Nat) (x53_20 : Bool), v53 = .bool x53_20 ∧ Aside0 (gantletlaw13_WhenPuts.j2 kq a0 a1 a2 t184 t185 t186 t187 t188 x53_20 = some r) ∧ Aside0 (kq ≤ kj15) ∧ Aside0 (Below w.heap.size w wc))
            case first =>
              have H := HC21.out
              clear HC21
              by_cases c22 : (t186 != x12_15) = true
              · rw [if_pos c22] at H
                have c22b0 : (t186 != x12_15) = true := c22
                (try (have c22b1 : decide (t186 = x12_15) = false := by simpa using c22))
                (try (have c22b2 : (t186 == x12_15) = false := by simpa using c22))
                (try (have c22b3 : ¬ (t186 = x12_15) := by simpa using c22))
                clear c22
                (first | rw [c22b0] | (simp only [i64_w, i32_w]; rw [c22b0]) | skip)
                have H' := Aside0.mk H
                clear H
                go_wp2
                go_meet
                case rel => exact ⟨_, (true), (by first | rfl | (simp; done) | (simp [*]; done)), H', ⟨by have := HJ3.out; have := HJ15.out; first | omega | exact Nat.le_refl _⟩, ⟨by repeat (first | (with_reducible first | exact HB.out | apply below_alloc | apply pw_below_drewN | apply below_drew1) | exact HB.out)⟩⟩
              · rw [if_neg c22] at H
                have c22b0 : (t186 != x12_15) = false := by simpa using c22
                (try (have c22b1 : decide (t186 = x12_15) = true := by simpa using c22))
                (try (have c22b2 : (t186 == x12_15) = true := by simpa using c22))
                clear c22
                (first | rw [c22b0] | (simp only [i64_w, i32_w]; rw [c22b0]) | skip)
                replace H := Option.bind_eq_some_iff.mp H
                obtain ⟨t190, A230, H⟩ := H
                replace H : (gantletlaw13_WhenPuts.j2 kj15 a0 a1 a2 t184 t185 t186 t187 t188 (t188 != t190)) = some r := H
                have A23 := Aside0.mk A230
                clear A230
                have H' := Aside0.mk H
                clear H
                go_wp2_with (first | (go_at_call 16; (with_reducible refine (gantletref13_Right.calls kj15 a1 a2 t190 _ A23.out).mono ?_); rintro e w' ⟨rfl, ⟨nd, rfl⟩⟩))
                go_meet
                case rel => exact ⟨_, ((t188 != t190)), (by first | rfl | (simp; done) | (simp [*]; done)), H', ⟨by have := HJ3.out; have := HJ15.out; first | omega | exact Nat.le_refl _⟩, ⟨by repeat (first | (with_reducible first | exact HB.out | apply below_alloc | apply pw_below_drewN | apply below_drew1) | exact HB.out)⟩⟩
            case rest =>
              clear HC21
              try clear c1
              try clear c2
              try clear p2
              try clear c4
              try clear c6
              try clear c7
              try clear c7b0
              try clear c7b1
              try clear c9
              try clear c11
              try clear c13
              try clear c14
              try clear c15
              try clear c20
              try clear c22
              try clear c22b0
              try clear c22b1
              try clear c22b2
              try clear p2
              obtain ⟨kq, x53_20, rfl, HA, HJ20, HB⟩ := hcut
              cases kq with
              | zero => exact absurd HA.out (by simp [gantletlaw13_WhenPuts.j2])
              | succ kj20 =>
                have H := HA.out
                clear HA
                simp only [gantletlaw13_WhenPuts.j2] at H
                by_cases c24 : x53_20 = true
                · subst c24
                  have H1 : (none) = some r := by rw [if_pos rfl] at H; exact H
                  clear H
                  have H := H1
                  clear H1
                  exact absurd H (by simp)
                · replace c24 := Bool.eq_false_iff.mpr c24
                  subst c24
                  have H1 : (if t188 = true then ((gantletref13_Full.f a1 a2).bind fun t191 => (if t187.toList = t191.toList then (gantletlaw13_WhenPuts.j3 kj20 a0 t184 t185 t186 false) else (gantletlaw13_WhenPuts.j3 kj20 a0 t184 t185 t186 true))) else (gantletlaw13_WhenPuts.j3 kj20 a0 t184 t185 t186 (t187.toList != ([] : List UInt8)))) = some r := by rw [if_neg (show ¬ (false = true) by decide)] at H; exact H
                  clear H
                  have H := H1
                  clear H1
                  have HC25 := Aside0.mk H
                  clear H
                  go_upto_region 8 with (fail)
                  go_cut [69] (fun v69 wc => ∃ (kq : Nat) (x69_24 : Bool), v69 = .bool x69_24 ∧ Aside0 (gantletlaw13_WhenPuts.j3 kq a0 t184 t185 t186 x69_24 = some r) ∧ Aside0 (kq ≤ kj20) ∧ Aside0 (Below w.heap.size w wc))
                  case first =>
                    have H := HC25.out
                    clear HC25
                    by_cases c26 : t188 = true
                    · subst c26
                      have H1 : ((gantletref13_Full.f a1 a2).bind fun t191 => (if t187.toList = t191.toList then (gantletlaw13_WhenPuts.j3 kj20 a0 t184 t185 t186 false) else (gantletlaw13_WhenPuts.j3 kj20 a0 t184 t185 t186 true))) = some r := by rw [if_pos rfl] at H; exact H
                      clear H
                      have H := H1
                      clear H1
                      replace H := Option.bind_eq_some_iff.mp H
                      obtain ⟨t191, A270, H⟩ := H
                      replace H : (if t187.toList = t191.toList then (gantletlaw13_WhenPuts.j3 kj20 a0 t184 t185 t186 false) else (gantletlaw13_WhenPuts.j3 kj20 a0 t184 t185 t186 true)) = some r := H
                      have A27 := Aside0.mk A270
                      clear A270
                      by_cases c28 : t187.toList = t191.toList
                      · rw [if_pos c28] at H
                        have c28b0 : (t187.toList == t191.toList) = true := beq_iff_eq.mpr c28
                        have c28b1 : (t187.toList != t191.toList) = false := bne_eq_false_iff_eq.mpr c28
                        clear c28
                        (first | rw [c28b0] | (simp only [i64_w, i32_w]; rw [c28b0]) | skip)
                        have H' := Aside0.mk H
                        clear H
                        go_wp2_with (first | (go_at_call 17; (with_reducible refine (gantletref13_Full.calls a1 a2 t191 _ A27.out).mono ?_); rintro e w' ⟨rfl, ⟨nd, rfl⟩⟩))
                        go_meet
                        case rel => exact ⟨_, (false), (by first | rfl | (simp; done) | (simp [*]; done)), H', ⟨by have := HJ3.out; have := HJ15.out; have := HJ20.out; first | omega | exact Nat.le_refl _⟩, ⟨by repeat (first | (with_reducible first | exact HB.out | apply below_alloc | apply pw_below_drewN | apply below_drew1) | exact HB.out)⟩⟩
                      · rw [if_neg c28] at H
                        have c28b0 : (t187.toList == t191.toList) = false := beq_eq_false_iff_ne.mpr c28
                        have c28b1 : (t187.toList != t191.toList) = true := bne_iff_ne.mpr c28
                        (first | rw [c28b0] | (simp only [i64_w, i32_w]; rw [c28b0]) | skip)
                        have H' := Aside0.mk H
                        clear H
                        go_wp2_with (first | (go_at_call 17; (with_reducible refine (gantletref13_Full.calls a1 a2 t191 _ A27.out).mono ?_); rintro e w' ⟨rfl, ⟨nd, rfl⟩⟩))
                        go_meet
                        case rel => exact ⟨_, (true), (by first | rfl | (simp; done) | (simp [*]; done)), H', ⟨by have := HJ3.out; have := HJ15.out; have := HJ20.out; first | omega | exact Nat.le_refl _⟩, ⟨by repeat (first | (with_reducible first | exact HB.out | apply below_alloc | apply pw_below_drewN | apply below_drew1) | exact HB.out)⟩⟩
                    · replace c26 := Bool.eq_false_iff.mpr c26
                      subst c26
                      have H1 : (gantletlaw13_WhenPuts.j3 kj20 a0 t184 t185 t186 (t187.toList != ([] : List UInt8))) = some r := by rw [if_neg (show ¬ (false = true) by decide)] at H; exact H
                      clear H
                      have H := H1
                      clear H1
                      have H' := Aside0.mk H
                      clear H
                      go_wp2
                      go_meet
                      case rel => exact ⟨_, ((t187.toList != ([] : List UInt8))), (by first | rfl | (simp; done) | (simp [*]; done) | (simp [show ∀ l : List UInt8, (!l.isEmpty) = (l != []) from fun l => by cases l <;> rfl]; done)), H', ⟨by have := HJ3.out; have := HJ15.out; have := HJ20.out; first | omega | exact Nat.le_refl _⟩, ⟨by repeat (first | (with_reducible first | exact HB.out | apply below_alloc | apply pw_below_drewN | apply below_drew1) | exact HB.out)⟩⟩
                  case rest =>
                    clear HC25
                    try clear c1
                    try clear c2
                    try clear p2
                    try clear c4
                    try clear c6
                    try clear c7
                    try clear c7b0
                    try clear c7b1
                    try clear c9
                    try clear c11
                    try clear c13
                    try clear c14
                    try clear c15
                    try clear c20
                    try clear c22
                    try clear c22b0
                    try clear c22b1
                    try clear c22b2
                    try clear c24
                    try clear c26
                    try clear c28
                    try clear c28b0
                    try clear c28b1
                    try clear p2
                    obtain ⟨kq, x69_24, rfl, HA, HJ24, HB⟩ := hcut
                    cases kq with
                    | zero => exact absurd HA.out (by simp [gantletlaw13_WhenPuts.j3])
                    | succ kj24 =>
                      have H := HA.out
                      clear HA
                      simp only [gantletlaw13_WhenPuts.j3] at H
                      by_cases c29 : x69_24 = true
                      · subst c29
                        have H1 : (none) = some r := by rw [if_pos rfl] at H; exact H
                        clear H
                        have H := H1
                        clear H1
                        exact absurd H (by simp)
                      · replace c29 := Bool.eq_false_iff.mpr c29
                        subst c29
                        have H1 : (if t186 = true then (if ((Op.bytesLess a0.toList ([50, 48, 53, 48] : List UInt8)) = true) then (if t184 = 23 then (if 2 ≤ (a0.size : Int) then (if (a0.extract 2 a0.size).size + 1 ≤ 9223372036854775807 then (some (t185.toList == ((a0.extract 2 a0.size) ++ (⟨#[90]⟩ : ByteArray)).toList)) else (none)) else (none)) else (none)) else (if t184 = 24 then (if a0.size + 1 ≤ 9223372036854775807 then (some (t185.toList == (a0 ++ (⟨#[90]⟩ : ByteArray)).toList)) else (none)) else (none))) else (if t184 = 0 then (some (t185.toList == ([] : List UInt8))) else (none))) = some r := by rw [if_neg (show ¬ (false = true) by decide)] at H; exact H
                        clear H
                        have H := H1
                        clear H1
                        by_cases c30 : t186 = true
                        · subst c30
                          have H1 : (if ((Op.bytesLess a0.toList ([50, 48, 53, 48] : List UInt8)) = true) then (if t184 = 23 then (if 2 ≤ (a0.size : Int) then (if (a0.extract 2 a0.size).size + 1 ≤ 9223372036854775807 then (some (t185.toList == ((a0.extract 2 a0.size) ++ (⟨#[90]⟩ : ByteArray)).toList)) else (none)) else (none)) else (none)) else (if t184 = 24 then (if a0.size + 1 ≤ 9223372036854775807 then (some (t185.toList == (a0 ++ (⟨#[90]⟩ : ByteArray)).toList)) else (none)) else (none))) = some r := by rw [if_pos rfl] at H; exact H
                          clear H
                          have H := H1
                          clear H1
                          by_cases c31 : ((Op.bytesLess a0.toList ([50, 48, 53, 48] : List UInt8)) = true)
                          · rw [if_pos c31] at H
                            have c31b0 : (Op.bytesLess a0.toList ([50, 48, 53, 48] : List UInt8)) = true := c31
                            clear c31
                            by_cases c32 : t184 = 23
                            · rw [if_pos c32] at H
                              have c32b0 : (t184 == 23) = true := beq_iff_eq.mpr c32
                              have c32b1 : (t184 != 23) = false := bne_eq_false_iff_eq.mpr c32
                              clear c32
                              by_cases c33 : 2 ≤ (a0.size : Int)
                              · rw [if_pos c33] at H
                                have c33b0 := eq_true c33
                                have c33b1 : decide (2 ≤ (a0.size : Int)) = true := decide_eq_true c33
                                clear c33
                                by_cases c34 : (a0.extract 2 a0.size).size + 1 ≤ 9223372036854775807
                                · rw [if_pos c34] at H
                                  have c34b0 := eq_true c34
                                  have c34b1 : decide ((a0.extract 2 a0.size).size + 1 ≤ 9223372036854775807) = true := decide_eq_true c34
                                  try have c34b2 : (9223372036854775807 < (a0.extract 2 a0.size).size + 1) = False := eq_false (Nat.not_lt.2 c34)
                                  obtain rfl := Option.some.inj H
                                  have c34e : (a0.extract 2 a0.size).size = a0.size - 2 := by simp
                                  go_wp2
                                  trace_state
                                  go_ret
                                  exact ⟨by first | rfl | (simp [errW_none, errW_some] <;> rfl) | (simp [*, errW_none, errW_some] <;> rfl), by repeat (first | (with_reducible first | exact HB.out | apply below_alloc | apply pw_below_drewN | apply below_drew1) | exact HB.out)⟩
                                · rw [if_neg c34] at H
                                  exact absurd H (by simp)
                              · rw [if_neg c33] at H
                                exact absurd H (by simp)
                            · rw [if_neg c32] at H
                              exact absurd H (by simp)
                          · rw [if_neg c31] at H
                            have c31b0 : (Op.bytesLess a0.toList ([50, 48, 53, 48] : List UInt8)) = false := by simpa using c31
                            clear c31
                            by_cases c35 : t184 = 24
                            · rw [if_pos c35] at H
                              have c35b0 : (t184 == 24) = true := beq_iff_eq.mpr c35
                              have c35b1 : (t184 != 24) = false := bne_eq_false_iff_eq.mpr c35
                              clear c35
                              by_cases c36 : a0.size + 1 ≤ 9223372036854775807
                              · rw [if_pos c36] at H
                                have c36b0 := eq_true c36
                                have c36b1 : decide (a0.size + 1 ≤ 9223372036854775807) = true := decide_eq_true c36
                                try have c36b2 : (9223372036854775807 < a0.size + 1) = False := eq_false (Nat.not_lt.2 c36)
                                obtain rfl := Option.some.inj H
                                go_wp2
                                go_ret
                                exact ⟨by first | rfl | (simp [errW_none, errW_some] <;> rfl) | (simp [*, errW_none, errW_some] <;> rfl), by repeat (first | (with_reducible first | exact HB.out | apply below_alloc | apply pw_below_drewN | apply below_drew1) | exact HB.out)⟩
                              · rw [if_neg c36] at H
                                exact absurd H (by simp)
                            · rw [if_neg c35] at H
                              exact absurd H (by simp)
                        · replace c30 := Bool.eq_false_iff.mpr c30
                          subst c30
                          have H1 : (if t184 = 0 then (some (t185.toList == ([] : List UInt8))) else (none)) = some r := by rw [if_neg (show ¬ (false = true) by decide)] at H; exact H
                          clear H
                          have H := H1
                          clear H1
                          by_cases c37 : t184 = 0
                          · rw [if_pos c37] at H
                            have c37b0 : (t184 == 0) = true := beq_iff_eq.mpr c37
                            have c37b1 : (t184 != 0) = false := bne_eq_false_iff_eq.mpr c37
                            clear c37
                            obtain rfl := Option.some.inj H
                            go_wp2
                            go_ret
                            exact ⟨by first | rfl | (simp [errW_none, errW_some] <;> rfl) | (simp [*, errW_none, errW_some] <;> rfl), by repeat (first | (with_reducible first | exact HB.out | apply below_alloc | apply pw_below_drewN | apply below_drew1) | exact HB.out)⟩
                          · rw [if_neg c37] at H
                            exact absurd H (by simp)

/-- THE ONE PURE STATEMENT of gantletlaw13_WhenPuts: yours. -/
def gantletlaw13_WhenPuts.Pure : Prop := ∀ (a0 : ByteArray) (a1 : Int) (a2 : ByteArray), a0.size ≤ 140737488351232 → (Lit.int .i64 a1).wf = true → a2.size ≤ 140737488351232 → ∃ k, gantletlaw13_WhenPuts.f k a0 a1 a2 = some true
theorem gantletlaw13_WhenPuts.walk (P : gantletlaw13_WhenPuts.Pure) (a0 : ByteArray) (a1 : Int) (a2 : ByteArray) (w : World) (w0 : a0.size ≤ 140737488351232) (w1 : (Lit.int .i64 a1).wf = true) (w2 : a2.size ≤ 140737488351232) :
    Calls Try.prog 4 #[.string a0, .int .i64 a1, .string a2] w fun e w' => e = .returned (.bool true) ∧ Below w.heap.size w w' := by
  obtain ⟨k, h⟩ := P a0 a1 a2 w0 w1 w2
  refine (gantletlaw13_WhenPuts.calls k a0 a1 a2 true w h).mono ?_
  rintro e w' ⟨rfl, hd⟩
  exact ⟨rfl, hd⟩

/-! ### gantletlaw13_WhenBack: function 5 -/
def gantletlaw13_WhenBack.j0 : Nat → ByteArray → Bool → Option (Bool)
  | 0, _, _ => none
  | k + 1, x0, x14 => if x14 = true then ((gantletlaw13_awake.f k).bind fun t193 => (some t193)) else ((when_Put.f k x0).bind fun bt194 => (if bt194.2.2 = true then ((when_Get.f k bt194.1 bt194.2.1).bind fun bt197 => (if bt197.2 = true then (some (bt197.1.toList == x0.toList)) else (none))) else (some true)))
def gantletlaw13_WhenBack.f (k : Nat) (a0 : ByteArray) : Option (Bool) := (gantletlaw13_awake.f k).bind fun t192 => (if t192 = true then (gantletlaw13_WhenBack.j0 k a0 (decide ((a0.size : Int) > 100))) else (gantletlaw13_WhenBack.j0 k a0 true))
theorem gantletlaw13_WhenBack.mono_l : ∀ k, (∀ y0 y1, LeO (gantletlaw13_WhenBack.j0 k y0 y1) (gantletlaw13_WhenBack.j0 (k + 1) y0 y1))
  | 0 => fun _ _ r h => by simp [gantletlaw13_WhenBack.j0] at h
  | k + 1 => by
    have ih0 := gantletlaw13_WhenBack.mono_l k
    · intro y0 y1
      unfold gantletlaw13_WhenBack.j0
      repeat' first
      | (with_reducible exact ih0 _ _)
      | (with_reducible exact gantletlaw13_awake.mono _)
      | (with_reducible exact when_Get.mono _ _ _)
      | (with_reducible exact when_Put.mono _ _)
      | (with_reducible exact LeO.refl _)
      | (with_reducible exact LeO.none _)
      | (with_reducible refine LeO.ite ?_ ?_)
      | (with_reducible refine LeO.bind ?_ (fun _ => ?_))
      | exact ih0 _ _
      | exact gantletlaw13_awake.mono _
      | exact when_Get.mono _ _ _
      | exact when_Put.mono _ _
      | exact LeO.none _
      | refine LeO.ite ?_ ?_
      | refine LeO.bind ?_ (fun _ => ?_)
theorem gantletlaw13_WhenBack.mono : ∀ a0 k, LeO (gantletlaw13_WhenBack.f k a0) (gantletlaw13_WhenBack.f (k + 1) a0) := by
  intro a0 k
  have ih0 := gantletlaw13_WhenBack.mono_l k
  unfold gantletlaw13_WhenBack.f
  repeat' first
      | (with_reducible exact ih0 _ _)
      | (with_reducible exact gantletlaw13_awake.mono _)
      | (with_reducible exact when_Get.mono _ _ _)
      | (with_reducible exact when_Put.mono _ _)
      | (with_reducible exact LeO.refl _)
      | (with_reducible exact LeO.none _)
      | (with_reducible refine LeO.ite ?_ ?_)
      | (with_reducible refine LeO.bind ?_ (fun _ => ?_))
      | exact ih0 _ _
      | exact gantletlaw13_awake.mono _
      | exact when_Get.mono _ _ _
      | exact when_Put.mono _ _
      | exact LeO.none _
      | refine LeO.ite ?_ ?_
      | refine LeO.bind ?_ (fun _ => ?_)
set_option maxHeartbeats 8000000 in
set_option maxRecDepth 100000 in
theorem gantletlaw13_WhenBack.calls (k : Nat) (a0 : ByteArray) (r : Bool) (w : World) (h : gantletlaw13_WhenBack.f k a0 = some r) :
    Calls Try.prog 5 #[.string a0] w fun e w' => e = .returned (.bool r) ∧ Below w.heap.size w w' := by
  have HB := Aside0.mk (Below.refl w.heap.size w)
  have H : ((gantletlaw13_awake.f k).bind fun t192 => (if t192 = true then (gantletlaw13_WhenBack.j0 k a0 (decide ((a0.size : Int) > 100))) else (gantletlaw13_WhenBack.j0 k a0 true))) = some r := h
  clear h
  have HC2 := Aside0.mk H
  clear H
  go_enter Try.func5, Try.ntmps5
  go_upto_region 1 with (fail)
  go_cut [14] (fun v14 wc => ∃ (kq : Nat) (x14_1 : Bool), v14 = .bool x14_1 ∧ Aside0 (gantletlaw13_WhenBack.j0 kq a0 x14_1 = some r) ∧ Aside0 (kq ≤ k) ∧ Aside0 (Below w.heap.size w wc))
  case first =>
    have H := HC2.out
    clear HC2
    replace H := Option.bind_eq_some_iff.mp H
    obtain ⟨t192, A30, H⟩ := H
    replace H : (if t192 = true then (gantletlaw13_WhenBack.j0 k a0 (decide ((a0.size : Int) > 100))) else (gantletlaw13_WhenBack.j0 k a0 true)) = some r := H
    have A3 := Aside0.mk A30
    clear A30
    by_cases c4 : t192 = true
    · subst c4
      have H1 : (gantletlaw13_WhenBack.j0 k a0 (decide ((a0.size : Int) > 100))) = some r := by rw [if_pos rfl] at H; exact H
      clear H
      have H := H1
      clear H1
      have H' := Aside0.mk H
      clear H
      go_wp2_with (first | ((with_reducible refine gate_callee (f := 9) rfl ?_); refine goesL_ (some 8) rfl rfl Try.func9 (by kernel_rfl) rfl #[] rfl (by (try simp only [List.map_toArray, List.map_cons, List.map_nil]); first | done | rfl | (simp only [List.length_drop, List.length_take]; rfl)) ?_; (with_reducible refine (gantletlaw13_awake.calls k  true _ A3.out).mono ?_); rintro e w5 ⟨rfl, hb⟩; refine ⟨_, rfl, ?_⟩; have n0_ := Aside0.mk (below_step (by repeat (first | (with_reducible first | exact HB.out | apply below_alloc | apply pw_below_drewN | apply below_drew1) | exact HB.out)) hb); clear HB; have HB := n0_; clear n0_; (try clear hb); (try clear hb2); (try clear hk); (try clear hi)))
      go_meet
      case rel => exact ⟨_, (decide ((a0.size : Int) > 100)), (by first | rfl | (simp; done) | (simp [*]; done)), H', ⟨by first | omega | exact Nat.le_refl _⟩, ⟨by repeat (first | (with_reducible first | exact HB.out | apply below_alloc | apply pw_below_drewN | apply below_drew1) | exact HB.out)⟩⟩
    · replace c4 := Bool.eq_false_iff.mpr c4
      subst c4
      have H1 : (gantletlaw13_WhenBack.j0 k a0 true) = some r := by rw [if_neg (show ¬ (false = true) by decide)] at H; exact H
      clear H
      have H := H1
      clear H1
      have H' := Aside0.mk H
      clear H
      go_wp2_with (first | ((with_reducible refine gate_callee (f := 9) rfl ?_); refine goesL_ (some 8) rfl rfl Try.func9 (by kernel_rfl) rfl #[] rfl (by (try simp only [List.map_toArray, List.map_cons, List.map_nil]); first | done | rfl | (simp only [List.length_drop, List.length_take]; rfl)) ?_; (with_reducible refine (gantletlaw13_awake.calls k  false _ A3.out).mono ?_); rintro e w6 ⟨rfl, hb⟩; refine ⟨_, rfl, ?_⟩; have n0_ := Aside0.mk (below_step (by repeat (first | (with_reducible first | exact HB.out | apply below_alloc | apply pw_below_drewN | apply below_drew1) | exact HB.out)) hb); clear HB; have HB := n0_; clear n0_; (try clear hb); (try clear hb2); (try clear hk); (try clear hi)))
      go_meet
      case rel => exact ⟨_, (true), (by first | rfl | (simp; done) | (simp [*]; done)), H', ⟨by first | omega | exact Nat.le_refl _⟩, ⟨by repeat (first | (with_reducible first | exact HB.out | apply below_alloc | apply pw_below_drewN | apply below_drew1) | exact HB.out)⟩⟩
  case rest =>
    clear HC2
    try clear p2
    try clear c4
    try clear c5
    obtain ⟨kq, x14_1, rfl, HA, HJ1, HB⟩ := hcut
    cases kq with
    | zero => exact absurd HA.out (by simp [gantletlaw13_WhenBack.j0])
    | succ kj1 =>
      have H := HA.out
      clear HA
      simp only [gantletlaw13_WhenBack.j0] at H
      by_cases c7 : x14_1 = true
      · subst c7
        have H1 : ((gantletlaw13_awake.f kj1).bind fun t193 => (some t193)) = some r := by rw [if_pos rfl] at H; exact H
        clear H
        have H := H1
        clear H1
        replace H := Option.bind_eq_some_iff.mp H
        obtain ⟨t193, A80, H⟩ := H
        replace H : (some t193) = some r := H
        have A8 := Aside0.mk A80
        clear A80
        obtain rfl := Option.some.inj H
        go_wp2_with (first | ((with_reducible refine gate_callee (f := 9) rfl ?_); refine goesL_ (some 15) rfl rfl Try.func9 (by kernel_rfl) rfl #[] rfl (by (try simp only [List.map_toArray, List.map_cons, List.map_nil]); first | done | rfl | (simp only [List.length_drop, List.length_take]; rfl)) ?_; (with_reducible refine (gantletlaw13_awake.calls kj1  t193 _ A8.out).mono ?_); rintro e w9 ⟨rfl, hb⟩; refine ⟨_, rfl, ?_⟩; have n0_ := Aside0.mk (below_step (by repeat (first | (with_reducible first | exact HB.out | apply below_alloc | apply pw_below_drewN | apply below_drew1) | exact HB.out)) hb); clear HB; have HB := n0_; clear n0_; (try clear hb); (try clear hb2); (try clear hk); (try clear hi)))
        go_ret
        exact ⟨by first | rfl | (simp [errW_none, errW_some] <;> rfl) | (simp [*, errW_none, errW_some] <;> rfl), by repeat (first | (with_reducible first | exact HB.out | apply below_alloc | apply pw_below_drewN | apply below_drew1) | exact HB.out)⟩
      · replace c7 := Bool.eq_false_iff.mpr c7
        subst c7
        have H1 : ((when_Put.f kj1 a0).bind fun bt194 => (if bt194.2.2 = true then ((when_Get.f kj1 bt194.1 bt194.2.1).bind fun bt197 => (if bt197.2 = true then (some (bt197.1.toList == a0.toList)) else (none))) else (some true))) = some r := by rw [if_neg (show ¬ (false = true) by decide)] at H; exact H
        clear H
        have H := H1
        clear H1
        replace H := Option.bind_eq_some_iff.mp H
        obtain ⟨⟨t194, t195, t196⟩, A100, H⟩ := H
        replace H : (if t196 = true then ((when_Get.f kj1 t194 t195).bind fun bt197 => (if bt197.2 = true then (some (bt197.1.toList == a0.toList)) else (none))) else (some true)) = some r := H
        have A10 := Aside0.mk A100
        clear A100
        by_cases c11 : t196 = true
        · subst c11
          have H1 : ((when_Get.f kj1 t194 t195).bind fun bt197 => (if bt197.2 = true then (some (bt197.1.toList == a0.toList)) else (none))) = some r := by rw [if_pos rfl] at H; exact H
          clear H
          have H := H1
          clear H1
          replace H := Option.bind_eq_some_iff.mp H
          obtain ⟨⟨t197, t198⟩, A120, H⟩ := H
          replace H : (if t198 = true then (some (t197.toList == a0.toList)) else (none)) = some r := H
          have A12 := Aside0.mk A120
          clear A120
          by_cases c13 : t198 = true
          · subst c13
            have H1 : (some (t197.toList == a0.toList)) = some r := by rw [if_pos rfl] at H; exact H
            clear H
            have H := H1
            clear H1
            obtain rfl := Option.some.inj H
            go_wp2_with (first | ((with_reducible refine gate_callee (f := 13) rfl ?_); refine goesL_ (some 18) rfl rfl Try.func13 (by kernel_rfl) rfl #[.string a0] rfl (by (try simp only [List.map_toArray, List.map_cons, List.map_nil]); first | done | rfl | (simp only [List.length_drop, List.length_take]; rfl)) ?_; (with_reducible refine (when_Put.calls kj1 a0 t194 t195 true _ A10.out).mono ?_); rintro e w14 ⟨rfl, hb⟩; refine ⟨_, rfl, ?_⟩; have n0_ := Aside0.mk (below_step (by repeat (first | (with_reducible first | exact HB.out | apply below_alloc | apply pw_below_drewN | apply below_drew1) | exact HB.out)) hb); clear HB; have HB := n0_; clear n0_; (try clear hb); (try clear hb2); (try clear hk); (try clear hi)) | ((with_reducible refine gate_callee (f := 14) rfl ?_); refine goesL_ (some 27) rfl rfl Try.func14 (by kernel_rfl) rfl #[.int .i64 t194, .string t195] rfl (by (try simp only [List.map_toArray, List.map_cons, List.map_nil]); first | done | rfl | (simp only [List.length_drop, List.length_take]; rfl)) ?_; (with_reducible refine (when_Get.calls kj1 t194 t195 t197 true _ A12.out).mono ?_); rintro e w15 ⟨rfl, hb⟩; refine ⟨_, rfl, ?_⟩; have n0_ := Aside0.mk (below_step (by repeat (first | (with_reducible first | exact HB.out | apply below_alloc | apply pw_below_drewN | apply below_drew1) | exact HB.out)) hb); clear HB; have HB := n0_; clear n0_; (try clear hb); (try clear hb2); (try clear hk); (try clear hi)))
            go_ret
            exact ⟨by first | rfl | (simp [errW_none, errW_some] <;> rfl) | (simp [*, errW_none, errW_some] <;> rfl), by repeat (first | (with_reducible first | exact HB.out | apply below_alloc | apply pw_below_drewN | apply below_drew1) | exact HB.out)⟩
          · replace c13 := Bool.eq_false_iff.mpr c13
            subst c13
            have H1 : (none) = some r := by rw [if_neg (show ¬ (false = true) by decide)] at H; exact H
            clear H
            have H := H1
            clear H1
            exact absurd H (by simp)
        · replace c11 := Bool.eq_false_iff.mpr c11
          subst c11
          have H1 : (some true) = some r := by rw [if_neg (show ¬ (false = true) by decide)] at H; exact H
          clear H
          have H := H1
          clear H1
          obtain rfl := Option.some.inj H
          go_wp2_with (first | ((with_reducible refine gate_callee (f := 13) rfl ?_); refine goesL_ (some 18) rfl rfl Try.func13 (by kernel_rfl) rfl #[.string a0] rfl (by (try simp only [List.map_toArray, List.map_cons, List.map_nil]); first | done | rfl | (simp only [List.length_drop, List.length_take]; rfl)) ?_; (with_reducible refine (when_Put.calls kj1 a0 t194 t195 false _ A10.out).mono ?_); rintro e w16 ⟨rfl, hb⟩; refine ⟨_, rfl, ?_⟩; have n0_ := Aside0.mk (below_step (by repeat (first | (with_reducible first | exact HB.out | apply below_alloc | apply pw_below_drewN | apply below_drew1) | exact HB.out)) hb); clear HB; have HB := n0_; clear n0_; (try clear hb); (try clear hb2); (try clear hk); (try clear hi)))
          go_ret
          exact ⟨by first | rfl | (simp [errW_none, errW_some] <;> rfl) | (simp [*, errW_none, errW_some] <;> rfl), by repeat (first | (with_reducible first | exact HB.out | apply below_alloc | apply pw_below_drewN | apply below_drew1) | exact HB.out)⟩

/-- THE ONE PURE STATEMENT of gantletlaw13_WhenBack: yours. -/
def gantletlaw13_WhenBack.Pure : Prop := ∀ (a0 : ByteArray), a0.size ≤ 140737488351232 → ∃ k, gantletlaw13_WhenBack.f k a0 = some true
theorem gantletlaw13_WhenBack.walk (P : gantletlaw13_WhenBack.Pure) (a0 : ByteArray) (w : World) (w0 : a0.size ≤ 140737488351232) :
    Calls Try.prog 5 #[.string a0] w fun e w' => e = .returned (.bool true) ∧ Below w.heap.size w w' := by
  obtain ⟨k, h⟩ := P a0 w0
  refine (gantletlaw13_WhenBack.calls k a0 true w h).mono ?_
  rintro e w' ⟨rfl, hd⟩
  exact ⟨rfl, hd⟩

end Go.Proofs.Ytailnnjkbiihmaa.PA
