-- Written by a program of this session (print2, a turned print): not PRINTED BY print.sh
import Derived.Test.YtomaajagncjiiaaPBx0
import Derived.Test.YtomaajagncjiiaaPBx1
import Derived.Test.YtomaajagncjiiaaPBx7
import Derived.Test.YtomaajagncjiiaaPBx8
import Derived.Test.YtomaajagncjiiaaPBx10
namespace Go.Proofs.Ytomaajagncjiiaa.PB
open Go.RowKit Go.Proofs.YtomaajagncjiiaaW.PrintWords Go.Proofs.YtomaajagncjiiaaW.PrintLast Go.Proofs.YtomaajagncjiiaaW.PrintMore Go.Proofs.Ytomaajagncjiiaa.Own
attribute [local go_sem] max2_int min2_int max_two min_two max_three min_three max_four min_four   -- for this text's walks alone
set_option linter.unusedVariables false
set_option linter.unusedSimpArgs false

attribute [local go_sem high] eqA34
/-! ### gantletlaw09_EventOne: function 8 -/
mutual
def gantletlaw09_EventOne.j0 : Nat → Int → ByteArray → Bool → Option (Bool)
  | 0, _, _, _ => none
  | k + 1, x0, x1, x29 => if x29 = true then ((gantletlaw09_awake.f k).bind fun t177 => (some t177)) else ((gantletref09_Element.f k 0 x0 false 0 x1).bind fun t178 => ((event_Whole.f t178 1).bind fun bt179 => ((gantletref09_Element.f k 0 16 true 0 t178).bind fun t184 => ((event_Whole.f t184 1).bind fun bt185 => (if bt179.2.1 = 0 then (if bt185.2.1 = 0 then (if (bt179.1.length : Int) = (wrap64 ((x1.size : Int) + 2)) then (gantletlaw09_EventOne.j1 k t178 bt179.1 bt185.1 ((bt185.1.length : Int) != (wrap64 ((bt179.1.length : Int) + 2)))) else (gantletlaw09_EventOne.j1 k t178 bt179.1 bt185.1 true)) else (gantletlaw09_EventOne.j1 k t178 bt179.1 bt185.1 true)) else (gantletlaw09_EventOne.j1 k t178 bt179.1 bt185.1 true))))))
def gantletlaw09_EventOne.j1 : Nat → ByteArray → List (S36) → List (S36) → Bool → Option (Bool)
  | 0, _, _, _, _ => none
  | k + 1, x5, x6, x9, x70 => if x70 = true then (none) else (gantletlaw09_EventOne.l0 k x5 x6 x9 x6 (x6.length : Int) 0)
def gantletlaw09_EventOne.l0 : Nat → ByteArray → List (S36) → List (S36) → List (S36) → Int → Int → Option (Bool)
  | 0, _, _, _, _, _, _ => none
  | k + 1, x5, x6, x9, x71, x72, x73 => if x73 < x72 then (if 0 ≤ x73 then (if x73 < (x71.length : Int) then (if 0 ≤ (wrap64 (x73 + 1)) then (if (wrap64 (x73 + 1)) < (x9.length : Int) then (if ((rd_T36 x71 x73).f0) = ((rd_T36 x9 (wrap64 (x73 + 1))).f0) then (if (!(((rd_T36 x71 x73).f2.f0) == ((rd_T36 x9 (wrap64 (x73 + 1))).f2.f0)) || (!(((rd_T36 x71 x73).f2.f1) == ((rd_T36 x9 (wrap64 (x73 + 1))).f2.f1)) || (!(((rd_T36 x71 x73).f2.f2) == ((rd_T36 x9 (wrap64 (x73 + 1))).f2.f2)) || (!(((rd_T36 x71 x73).f2.f3) == ((rd_T36 x9 (wrap64 (x73 + 1))).f2.f3)))))) = true then (none) else (if ((rd_T36 x71 x73).f3) = ((rd_T36 x9 (wrap64 (x73 + 1))).f3) then (if 1 < (x9.length : Int) then (if 0 < (x6.length : Int) then (if (wrap64 (((rd_T36 x9 (wrap64 (x73 + 1))).f1) - ((rd_T36 x71 x73).f1))) = (wrap64 (((rd_T36 x9 1).f1) - ((rd_T36 x6 0).f1))) then (gantletlaw09_EventOne.l0 k x5 x6 x9 x71 x72 (wrap64 (x73 + 1))) else (none)) else (none)) else (none)) else (none))) else (none)) else (none)) else (none)) else (none)) else (none)) else (if 0 < (x9.length : Int) then (if ((rd_T36 x9 0).f0) = 1 then (if ((rd_T36 x9 0).f2.f3) = (x5.size : Int) then (if 0 ≤ (wrap64 ((x9.length : Int) - 1)) then (if (wrap64 ((x9.length : Int) - 1)) < (x9.length : Int) then (some (((rd_T36 x9 (wrap64 ((x9.length : Int) - 1))).f0) == 5)) else (none)) else (none)) else (none)) else (none)) else (none))
end
def gantletlaw09_EventOne.f (k : Nat) (a0 : Int) (a1 : ByteArray) : Option (Bool) := (gantletlaw09_awake.f k).bind fun t176 => (if t176 = true then (if a0 < 0 then (gantletlaw09_EventOne.j0 k a0 a1 true) else (if a0 > 268435455 then (gantletlaw09_EventOne.j0 k a0 a1 true) else (gantletlaw09_EventOne.j0 k a0 a1 (decide ((a1.size : Int) > 200))))) else (gantletlaw09_EventOne.j0 k a0 a1 true))
theorem gantletlaw09_EventOne.mono_l : ∀ k, (∀ y0 y1 y2, LeO (gantletlaw09_EventOne.j0 k y0 y1 y2) (gantletlaw09_EventOne.j0 (k + 1) y0 y1 y2)) ∧ (∀ y0 y1 y2 y3, LeO (gantletlaw09_EventOne.j1 k y0 y1 y2 y3) (gantletlaw09_EventOne.j1 (k + 1) y0 y1 y2 y3)) ∧ (∀ y0 y1 y2 y3 y4 y5, LeO (gantletlaw09_EventOne.l0 k y0 y1 y2 y3 y4 y5) (gantletlaw09_EventOne.l0 (k + 1) y0 y1 y2 y3 y4 y5))
  | 0 => ⟨fun _ _ _ r h => by simp [gantletlaw09_EventOne.j0] at h, fun _ _ _ _ r h => by simp [gantletlaw09_EventOne.j1] at h, fun _ _ _ _ _ _ r h => by simp [gantletlaw09_EventOne.l0] at h⟩
  | k + 1 => by
    obtain ⟨ih0, ih1, ih2⟩ := gantletlaw09_EventOne.mono_l k
    refine ⟨?_, ?_, ?_⟩
    · intro y0 y1 y2
      unfold gantletlaw09_EventOne.j0
      repeat' first
      | (with_reducible exact ih0 _ _ _)
      | (with_reducible exact ih1 _ _ _ _)
      | (with_reducible exact ih2 _ _ _ _ _ _)
      | (with_reducible exact gantletlaw09_awake.mono _)
      | (with_reducible exact gantletref09_Element.mono _ _ _ _ _ _)
      | (with_reducible exact LeO.refl _)
      | (with_reducible exact LeO.none _)
      | (with_reducible refine LeO.ite ?_ ?_)
      | (with_reducible refine LeO.bind ?_ (fun _ => ?_))
      | exact ih0 _ _ _
      | exact ih1 _ _ _ _
      | exact ih2 _ _ _ _ _ _
      | exact gantletlaw09_awake.mono _
      | exact gantletref09_Element.mono _ _ _ _ _ _
      | exact LeO.none _
      | refine LeO.ite ?_ ?_
      | refine LeO.bind ?_ (fun _ => ?_)
    · intro y0 y1 y2 y3
      unfold gantletlaw09_EventOne.j1
      repeat' first
      | (with_reducible exact ih0 _ _ _)
      | (with_reducible exact ih1 _ _ _ _)
      | (with_reducible exact ih2 _ _ _ _ _ _)
      | (with_reducible exact gantletlaw09_awake.mono _)
      | (with_reducible exact gantletref09_Element.mono _ _ _ _ _ _)
      | (with_reducible exact LeO.refl _)
      | (with_reducible exact LeO.none _)
      | (with_reducible refine LeO.ite ?_ ?_)
      | (with_reducible refine LeO.bind ?_ (fun _ => ?_))
      | exact ih0 _ _ _
      | exact ih1 _ _ _ _
      | exact ih2 _ _ _ _ _ _
      | exact gantletlaw09_awake.mono _
      | exact gantletref09_Element.mono _ _ _ _ _ _
      | exact LeO.none _
      | refine LeO.ite ?_ ?_
      | refine LeO.bind ?_ (fun _ => ?_)
    · intro y0 y1 y2 y3 y4 y5
      unfold gantletlaw09_EventOne.l0
      repeat' first
      | (with_reducible exact ih0 _ _ _)
      | (with_reducible exact ih1 _ _ _ _)
      | (with_reducible exact ih2 _ _ _ _ _ _)
      | (with_reducible exact gantletlaw09_awake.mono _)
      | (with_reducible exact gantletref09_Element.mono _ _ _ _ _ _)
      | (with_reducible exact LeO.refl _)
      | (with_reducible exact LeO.none _)
      | (with_reducible refine LeO.ite ?_ ?_)
      | (with_reducible refine LeO.bind ?_ (fun _ => ?_))
      | exact ih0 _ _ _
      | exact ih1 _ _ _ _
      | exact ih2 _ _ _ _ _ _
      | exact gantletlaw09_awake.mono _
      | exact gantletref09_Element.mono _ _ _ _ _ _
      | exact LeO.none _
      | refine LeO.ite ?_ ?_
      | refine LeO.bind ?_ (fun _ => ?_)
theorem gantletlaw09_EventOne.mono : ∀ a0 a1 k, LeO (gantletlaw09_EventOne.f k a0 a1) (gantletlaw09_EventOne.f (k + 1) a0 a1) := by
  intro a0 a1 k
  obtain ⟨ih0, ih1, ih2⟩ := gantletlaw09_EventOne.mono_l k
  unfold gantletlaw09_EventOne.f
  repeat' first
      | (with_reducible exact ih0 _ _ _)
      | (with_reducible exact ih1 _ _ _ _)
      | (with_reducible exact ih2 _ _ _ _ _ _)
      | (with_reducible exact gantletlaw09_awake.mono _)
      | (with_reducible exact gantletref09_Element.mono _ _ _ _ _ _)
      | (with_reducible exact LeO.refl _)
      | (with_reducible exact LeO.none _)
      | (with_reducible refine LeO.ite ?_ ?_)
      | (with_reducible refine LeO.bind ?_ (fun _ => ?_))
      | exact ih0 _ _ _
      | exact ih1 _ _ _ _
      | exact ih2 _ _ _ _ _ _
      | exact gantletlaw09_awake.mono _
      | exact gantletref09_Element.mono _ _ _ _ _ _
      | exact LeO.none _
      | refine LeO.ite ?_ ?_
      | refine LeO.bind ?_ (fun _ => ?_)
set_option maxHeartbeats 8000000 in
set_option maxRecDepth 100000 in
theorem gantletlaw09_EventOne.calls (k : Nat) (a0 : Int) (a1 : ByteArray) (r : Bool) (w : World) (h : gantletlaw09_EventOne.f k a0 a1 = some r) :
    Calls Try.prog 8 #[.int .i64 a0, .string a1] w fun e w' => e = .returned (.bool r) ∧ Below w.heap.size w w' := by
  have hu34 := Try.underlying34
  have hu36 := Try.underlying36
  have HB := Aside0.mk (Below.refl w.heap.size w)
  have H : ((gantletlaw09_awake.f k).bind fun t176 => (if t176 = true then (if a0 < 0 then (gantletlaw09_EventOne.j0 k a0 a1 true) else (if a0 > 268435455 then (gantletlaw09_EventOne.j0 k a0 a1 true) else (gantletlaw09_EventOne.j0 k a0 a1 (decide ((a1.size : Int) > 200))))) else (gantletlaw09_EventOne.j0 k a0 a1 true))) = some r := h
  clear h
  have HC3 := Aside0.mk H
  clear H
  go_enter Try.func8, Try.ntmps8
  go_upto_region 1 with (fail)
  repeat (go_quiet (fail); go_upto_region 1 with (fail))
  go_cut [29] (fun v29 wc => ∃ (kq : Nat) (x29_2 : Bool), v29 = .bool x29_2 ∧ Aside0 (gantletlaw09_EventOne.j0 kq a0 a1 x29_2 = some r) ∧ Aside0 (kq ≤ k) ∧ Aside0 (Below w.heap.size w wc))
  case first =>
    have H := HC3.out
    clear HC3
    replace H := Option.bind_eq_some_iff.mp H
    obtain ⟨t176, A40, H⟩ := H
    replace H : (if t176 = true then (if a0 < 0 then (gantletlaw09_EventOne.j0 k a0 a1 true) else (if a0 > 268435455 then (gantletlaw09_EventOne.j0 k a0 a1 true) else (gantletlaw09_EventOne.j0 k a0 a1 (decide ((a1.size : Int) > 200))))) else (gantletlaw09_EventOne.j0 k a0 a1 true)) = some r := H
    have A4 := Aside0.mk A40
    clear A40
    by_cases c5 : t176 = true
    · subst c5
      have H1 : (if a0 < 0 then (gantletlaw09_EventOne.j0 k a0 a1 true) else (if a0 > 268435455 then (gantletlaw09_EventOne.j0 k a0 a1 true) else (gantletlaw09_EventOne.j0 k a0 a1 (decide ((a1.size : Int) > 200))))) = some r := by rw [if_pos rfl] at H; exact H
      clear H
      have H := H1
      clear H1
      by_cases c6 : a0 < 0
      · rw [if_pos c6] at H
        have c6b0 : decide (a0 < 0) = true := decide_eq_true c6
        clear c6
        (first | rw [c6b0] | (simp only [i64_w, i32_w]; rw [c6b0]) | skip)
        have H' := Aside0.mk H
        clear H
        go_wp2_with (first | (go_at_call 11; (with_reducible refine (gantletlaw09_awake.calls k  true _ A4.out).mono ?_); rintro e w7 ⟨rfl, hb⟩; have n0_ := Aside0.mk (below_step (by repeat (first | (with_reducible first | exact HB.out | apply below_alloc | apply pw_below_drewN | apply below_drew1) | exact HB.out)) hb); clear HB; have HB := n0_; clear n0_; (try clear hb); (try clear hb2); (try clear hk); (try clear hi)))
        repeat (go_quiet (first | (go_at_call 11; (with_reducible refine (gantletlaw09_awake.calls k  true _ A4.out).mono ?_); rintro e w7 ⟨rfl, hb⟩; have n0_ := Aside0.mk (below_step (by repeat (first | (with_reducible first | exact HB.out | apply below_alloc | apply pw_below_drewN | apply below_drew1) | exact HB.out)) hb); clear HB; have HB := n0_; clear n0_; (try clear hb); (try clear hb2); (try clear hk); (try clear hi))); try go_wp2_with (first | (go_at_call 11; (with_reducible refine (gantletlaw09_awake.calls k  true _ A4.out).mono ?_); rintro e w7 ⟨rfl, hb⟩; have n0_ := Aside0.mk (below_step (by repeat (first | (with_reducible first | exact HB.out | apply below_alloc | apply pw_below_drewN | apply below_drew1) | exact HB.out)) hb); clear HB; have HB := n0_; clear n0_; (try clear hb); (try clear hb2); (try clear hk); (try clear hi))))
        go_meet
        case rel => exact ⟨_, (true), (by first | rfl | (simp; done) | (simp [*]; done) | (simp [show ∀ l : List UInt8, (!l.isEmpty) = (l != []) from fun l => by cases l <;> rfl]; done)), H', ⟨by first | omega | exact Nat.le_refl _⟩, ⟨by repeat (first | (with_reducible first | exact HB.out | apply below_alloc | apply pw_below_drewN | apply below_drew1) | exact HB.out)⟩⟩
      · rw [if_neg c6] at H
        have c6b0 : decide (a0 < 0) = false := decide_eq_false c6
        clear c6
        (first | rw [c6b0] | (simp only [i64_w, i32_w]; rw [c6b0]) | skip)
        by_cases c8 : a0 > 268435455
        · rw [if_pos c8] at H
          have c8b0 : decide (268435455 < a0) = true := decide_eq_true c8
          clear c8
          have H' := Aside0.mk H
          clear H
          go_wp2_with (first | (go_at_call 11; (with_reducible refine (gantletlaw09_awake.calls k  true _ A4.out).mono ?_); rintro e w9 ⟨rfl, hb⟩; have n0_ := Aside0.mk (below_step (by repeat (first | (with_reducible first | exact HB.out | apply below_alloc | apply pw_below_drewN | apply below_drew1) | exact HB.out)) hb); clear HB; have HB := n0_; clear n0_; (try clear hb); (try clear hb2); (try clear hk); (try clear hi)))
          repeat (go_quiet (first | (go_at_call 11; (with_reducible refine (gantletlaw09_awake.calls k  true _ A4.out).mono ?_); rintro e w9 ⟨rfl, hb⟩; have n0_ := Aside0.mk (below_step (by repeat (first | (with_reducible first | exact HB.out | apply below_alloc | apply pw_below_drewN | apply below_drew1) | exact HB.out)) hb); clear HB; have HB := n0_; clear n0_; (try clear hb); (try clear hb2); (try clear hk); (try clear hi))); try go_wp2_with (first | (go_at_call 11; (with_reducible refine (gantletlaw09_awake.calls k  true _ A4.out).mono ?_); rintro e w9 ⟨rfl, hb⟩; have n0_ := Aside0.mk (below_step (by repeat (first | (with_reducible first | exact HB.out | apply below_alloc | apply pw_below_drewN | apply below_drew1) | exact HB.out)) hb); clear HB; have HB := n0_; clear n0_; (try clear hb); (try clear hb2); (try clear hk); (try clear hi))))
          go_meet
          case rel => exact ⟨_, (true), (by first | rfl | (simp; done) | (simp [*]; done) | (simp [show ∀ l : List UInt8, (!l.isEmpty) = (l != []) from fun l => by cases l <;> rfl]; done)), H', ⟨by first | omega | exact Nat.le_refl _⟩, ⟨by repeat (first | (with_reducible first | exact HB.out | apply below_alloc | apply pw_below_drewN | apply below_drew1) | exact HB.out)⟩⟩
        · rw [if_neg c8] at H
          have c8b0 : decide (268435455 < a0) = false := decide_eq_false c8
          clear c8
          have H' := Aside0.mk H
          clear H
          go_wp2_with (first | (go_at_call 11; (with_reducible refine (gantletlaw09_awake.calls k  true _ A4.out).mono ?_); rintro e w10 ⟨rfl, hb⟩; have n0_ := Aside0.mk (below_step (by repeat (first | (with_reducible first | exact HB.out | apply below_alloc | apply pw_below_drewN | apply below_drew1) | exact HB.out)) hb); clear HB; have HB := n0_; clear n0_; (try clear hb); (try clear hb2); (try clear hk); (try clear hi)))
          repeat (go_quiet (first | (go_at_call 11; (with_reducible refine (gantletlaw09_awake.calls k  true _ A4.out).mono ?_); rintro e w10 ⟨rfl, hb⟩; have n0_ := Aside0.mk (below_step (by repeat (first | (with_reducible first | exact HB.out | apply below_alloc | apply pw_below_drewN | apply below_drew1) | exact HB.out)) hb); clear HB; have HB := n0_; clear n0_; (try clear hb); (try clear hb2); (try clear hk); (try clear hi))); try go_wp2_with (first | (go_at_call 11; (with_reducible refine (gantletlaw09_awake.calls k  true _ A4.out).mono ?_); rintro e w10 ⟨rfl, hb⟩; have n0_ := Aside0.mk (below_step (by repeat (first | (with_reducible first | exact HB.out | apply below_alloc | apply pw_below_drewN | apply below_drew1) | exact HB.out)) hb); clear HB; have HB := n0_; clear n0_; (try clear hb); (try clear hb2); (try clear hk); (try clear hi))))
          go_meet
          case rel => exact ⟨_, (decide ((a1.size : Int) > 200)), (by first | rfl | (simp; done) | (simp [*]; done) | (simp [show ∀ l : List UInt8, (!l.isEmpty) = (l != []) from fun l => by cases l <;> rfl]; done)), H', ⟨by first | omega | exact Nat.le_refl _⟩, ⟨by repeat (first | (with_reducible first | exact HB.out | apply below_alloc | apply pw_below_drewN | apply below_drew1) | exact HB.out)⟩⟩
    · replace c5 := Bool.eq_false_iff.mpr c5
      subst c5
      have H1 : (gantletlaw09_EventOne.j0 k a0 a1 true) = some r := by rw [if_neg (show ¬ (false = true) by decide)] at H; exact H
      clear H
      have H := H1
      clear H1
      have H' := Aside0.mk H
      clear H
      go_wp2_with (first | (go_at_call 11; (with_reducible refine (gantletlaw09_awake.calls k  false _ A4.out).mono ?_); rintro e w11 ⟨rfl, hb⟩; have n0_ := Aside0.mk (below_step (by repeat (first | (with_reducible first | exact HB.out | apply below_alloc | apply pw_below_drewN | apply below_drew1) | exact HB.out)) hb); clear HB; have HB := n0_; clear n0_; (try clear hb); (try clear hb2); (try clear hk); (try clear hi)))
      repeat (go_quiet (first | (go_at_call 11; (with_reducible refine (gantletlaw09_awake.calls k  false _ A4.out).mono ?_); rintro e w11 ⟨rfl, hb⟩; have n0_ := Aside0.mk (below_step (by repeat (first | (with_reducible first | exact HB.out | apply below_alloc | apply pw_below_drewN | apply below_drew1) | exact HB.out)) hb); clear HB; have HB := n0_; clear n0_; (try clear hb); (try clear hb2); (try clear hk); (try clear hi))); try go_wp2_with (first | (go_at_call 11; (with_reducible refine (gantletlaw09_awake.calls k  false _ A4.out).mono ?_); rintro e w11 ⟨rfl, hb⟩; have n0_ := Aside0.mk (below_step (by repeat (first | (with_reducible first | exact HB.out | apply below_alloc | apply pw_below_drewN | apply below_drew1) | exact HB.out)) hb); clear HB; have HB := n0_; clear n0_; (try clear hb); (try clear hb2); (try clear hk); (try clear hi))))
      go_meet
      case rel => exact ⟨_, (true), (by first | rfl | (simp; done) | (simp [*]; done) | (simp [show ∀ l : List UInt8, (!l.isEmpty) = (l != []) from fun l => by cases l <;> rfl]; done)), H', ⟨by first | omega | exact Nat.le_refl _⟩, ⟨by repeat (first | (with_reducible first | exact HB.out | apply below_alloc | apply pw_below_drewN | apply below_drew1) | exact HB.out)⟩⟩
  case rest =>
    clear HC3
    try clear p2
    try clear c5
    try clear c6
    try clear c6b0
    try clear c8
    try clear c8b0
    obtain ⟨kq, x29_2, rfl, HA, HJ2, HB⟩ := hcut
    cases kq with
    | zero => exact absurd HA.out (by simp [gantletlaw09_EventOne.j0])
    | succ kj2 =>
      have H := HA.out
      clear HA
      simp only [gantletlaw09_EventOne.j0] at H
      by_cases c12 : x29_2 = true
      · subst c12
        have H1 : ((gantletlaw09_awake.f kj2).bind fun t177 => (some t177)) = some r := by rw [if_pos rfl] at H; exact H
        clear H
        have H := H1
        clear H1
        replace H := Option.bind_eq_some_iff.mp H
        obtain ⟨t177, A130, H⟩ := H
        replace H : (some t177) = some r := H
        have A13 := Aside0.mk A130
        clear A130
        obtain rfl := Option.some.inj H
        go_wp2_with (first | (go_at_call 11; (with_reducible refine (gantletlaw09_awake.calls kj2  t177 _ A13.out).mono ?_); rintro e w14 ⟨rfl, hb⟩; have n0_ := Aside0.mk (below_step (by repeat (first | (with_reducible first | exact HB.out | apply below_alloc | apply pw_below_drewN | apply below_drew1) | exact HB.out)) hb); clear HB; have HB := n0_; clear n0_; (try clear hb); (try clear hb2); (try clear hk); (try clear hi)))
        repeat (go_quiet (first | (go_at_call 11; (with_reducible refine (gantletlaw09_awake.calls kj2  t177 _ A13.out).mono ?_); rintro e w14 ⟨rfl, hb⟩; have n0_ := Aside0.mk (below_step (by repeat (first | (with_reducible first | exact HB.out | apply below_alloc | apply pw_below_drewN | apply below_drew1) | exact HB.out)) hb); clear HB; have HB := n0_; clear n0_; (try clear hb); (try clear hb2); (try clear hk); (try clear hi))); try go_wp2_with (first | (go_at_call 11; (with_reducible refine (gantletlaw09_awake.calls kj2  t177 _ A13.out).mono ?_); rintro e w14 ⟨rfl, hb⟩; have n0_ := Aside0.mk (below_step (by repeat (first | (with_reducible first | exact HB.out | apply below_alloc | apply pw_below_drewN | apply below_drew1) | exact HB.out)) hb); clear HB; have HB := n0_; clear n0_; (try clear hb); (try clear hb2); (try clear hk); (try clear hi))))
        go_ret
        exact ⟨by first | rfl | (simp [errW_none, errW_some] <;> rfl) | (simp [*, errW_none, errW_some] <;> rfl), by repeat (first | (with_reducible first | exact HB.out | apply below_alloc | apply pw_below_drewN | apply below_drew1) | exact HB.out)⟩
      · replace c12 := Bool.eq_false_iff.mpr c12
        subst c12
        have H1 : ((gantletref09_Element.f kj2 0 a0 false 0 a1).bind fun t178 => ((event_Whole.f t178 1).bind fun bt179 => ((gantletref09_Element.f kj2 0 16 true 0 t178).bind fun t184 => ((event_Whole.f t184 1).bind fun bt185 => (if bt179.2.1 = 0 then (if bt185.2.1 = 0 then (if (bt179.1.length : Int) = (wrap64 ((a1.size : Int) + 2)) then (gantletlaw09_EventOne.j1 kj2 t178 bt179.1 bt185.1 ((bt185.1.length : Int) != (wrap64 ((bt179.1.length : Int) + 2)))) else (gantletlaw09_EventOne.j1 kj2 t178 bt179.1 bt185.1 true)) else (gantletlaw09_EventOne.j1 kj2 t178 bt179.1 bt185.1 true)) else (gantletlaw09_EventOne.j1 kj2 t178 bt179.1 bt185.1 true)))))) = some r := by rw [if_neg (show ¬ (false = true) by decide)] at H; exact H
        clear H
        have H := H1
        clear H1
        replace H := Option.bind_eq_some_iff.mp H
        obtain ⟨t178, A150, H⟩ := H
        replace H : ((event_Whole.f t178 1).bind fun bt179 => ((gantletref09_Element.f kj2 0 16 true 0 t178).bind fun t184 => ((event_Whole.f t184 1).bind fun bt185 => (if bt179.2.1 = 0 then (if bt185.2.1 = 0 then (if (bt179.1.length : Int) = (wrap64 ((a1.size : Int) + 2)) then (gantletlaw09_EventOne.j1 kj2 t178 bt179.1 bt185.1 ((bt185.1.length : Int) != (wrap64 ((bt179.1.length : Int) + 2)))) else (gantletlaw09_EventOne.j1 kj2 t178 bt179.1 bt185.1 true)) else (gantletlaw09_EventOne.j1 kj2 t178 bt179.1 bt185.1 true)) else (gantletlaw09_EventOne.j1 kj2 t178 bt179.1 bt185.1 true))))) = some r := H
        have A15 := Aside0.mk A150
        clear A150
        replace H := Option.bind_eq_some_iff.mp H
        obtain ⟨⟨t179, t180, t181⟩, A160, H⟩ := H
        replace H : ((gantletref09_Element.f kj2 0 16 true 0 t178).bind fun t184 => ((event_Whole.f t184 1).bind fun bt185 => (if t180 = 0 then (if bt185.2.1 = 0 then (if (t179.length : Int) = (wrap64 ((a1.size : Int) + 2)) then (gantletlaw09_EventOne.j1 kj2 t178 t179 bt185.1 ((bt185.1.length : Int) != (wrap64 ((t179.length : Int) + 2)))) else (gantletlaw09_EventOne.j1 kj2 t178 t179 bt185.1 true)) else (gantletlaw09_EventOne.j1 kj2 t178 t179 bt185.1 true)) else (gantletlaw09_EventOne.j1 kj2 t178 t179 bt185.1 true)))) = some r := H
        have A16 := Aside0.mk A160
        clear A160
        replace H := Option.bind_eq_some_iff.mp H
        obtain ⟨t184, A170, H⟩ := H
        replace H : ((event_Whole.f t184 1).bind fun bt185 => (if t180 = 0 then (if bt185.2.1 = 0 then (if (t179.length : Int) = (wrap64 ((a1.size : Int) + 2)) then (gantletlaw09_EventOne.j1 kj2 t178 t179 bt185.1 ((bt185.1.length : Int) != (wrap64 ((t179.length : Int) + 2)))) else (gantletlaw09_EventOne.j1 kj2 t178 t179 bt185.1 true)) else (gantletlaw09_EventOne.j1 kj2 t178 t179 bt185.1 true)) else (gantletlaw09_EventOne.j1 kj2 t178 t179 bt185.1 true))) = some r := H
        have A17 := Aside0.mk A170
        clear A170
        replace H := Option.bind_eq_some_iff.mp H
        obtain ⟨⟨t185, t186, t187⟩, A180, H⟩ := H
        replace H : (if t180 = 0 then (if t186 = 0 then (if (t179.length : Int) = (wrap64 ((a1.size : Int) + 2)) then (gantletlaw09_EventOne.j1 kj2 t178 t179 t185 ((t185.length : Int) != (wrap64 ((t179.length : Int) + 2)))) else (gantletlaw09_EventOne.j1 kj2 t178 t179 t185 true)) else (gantletlaw09_EventOne.j1 kj2 t178 t179 t185 true)) else (gantletlaw09_EventOne.j1 kj2 t178 t179 t185 true)) = some r := H
        have A18 := Aside0.mk A180
        clear A180
        have HC19 := Aside0.mk H
        clear H
        go_upto_region 6 with (first | (go_at_call 17; (with_reducible refine (gantletref09_Element.calls kj2 0 a0 false 0 a1 t178 _ A15.out).mono ?_); rintro e w20 ⟨rfl, hb⟩; have n0_ := Aside0.mk (below_step (by repeat (first | (with_reducible first | exact HB.out | apply below_alloc | apply pw_below_drewN | apply below_drew1) | exact HB.out)) hb); clear HB; have HB := n0_; clear n0_; (try clear hb); (try clear hb2); (try clear hk); (try clear hi)) | (go_at_call 13; (with_reducible refine (event_Whole.calls t178 1 t179 t180 t181 _ A16.out).mono ?_); rintro e w21 ⟨v182, rfl, ho0, hb⟩; have n0_ := Aside0.mk (Kd.R_lower ho0 (below_size (by repeat (first | (with_reducible first | exact HB.out | apply below_alloc | apply pw_below_drewN | apply below_drew1) | exact HB.out)))); have n1_ := Aside0.mk (below_step (by repeat (first | (with_reducible first | exact HB.out | apply below_alloc | apply pw_below_drewN | apply below_drew1) | exact HB.out)) hb); clear HB; have HO183 := n0_; have HB := n1_; clear n0_ n1_; (try clear hb); (try clear hb2); (try clear hk); (try clear hi); (try clear ho0)) | (go_at_call 17; (with_reducible refine (gantletref09_Element.calls kj2 0 16 true 0 t178 t184 _ A17.out).mono ?_); rintro e w22 ⟨rfl, hb⟩; have n0_ := Aside0.mk (Kd.R_below (by (with_reducible repeat (first | apply Kd.R_alloc | apply Kd.R_drewN | apply Kd.R_drew)); exact HO183.out) hb); have n1_ := Aside0.mk (below_step (by repeat (first | (with_reducible first | exact HB.out | apply below_alloc | apply pw_below_drewN | apply below_drew1) | exact HB.out)) hb); clear HO183; clear HB; have HO183 := n0_; have HB := n1_; clear n0_ n1_; (try clear hb); (try clear hb2); (try clear hk); (try clear hi)) | (go_at_call 13; (with_reducible refine (event_Whole.calls t184 1 t185 t186 t187 _ A18.out).mono ?_); rintro e w23 ⟨v188, rfl, ho0, hb⟩; have n0_ := Aside0.mk (Kd.R_elder' (by (with_reducible repeat (first | apply Kd.R_alloc | apply Kd.R_drewN | apply Kd.R_drew)); exact HO183.out) (Kd.R_base ho0) hb); have n1_ := Aside0.mk (Kd.R_lower (Kd.R_new' ho0 (Kd.R_lt (by (with_reducible repeat (first | apply Kd.R_alloc | apply Kd.R_drewN | apply Kd.R_drew)); exact HO183.out))) (below_size (by repeat (first | (with_reducible first | exact HB.out | apply below_alloc | apply pw_below_drewN | apply below_drew1) | exact HB.out)))); have n2_ := Aside0.mk (below_step (by repeat (first | (with_reducible first | exact HB.out | apply below_alloc | apply pw_below_drewN | apply below_drew1) | exact HB.out)) hb); clear HO183; clear HB; have HO183 := n0_; have HO189 := n1_; have HB := n2_; clear n0_ n1_ n2_; (try clear hb); (try clear hb2); (try clear hk); (try clear hi); (try clear ho0)))
        repeat (go_quiet (first | (go_at_call 17; (with_reducible refine (gantletref09_Element.calls kj2 0 a0 false 0 a1 t178 _ A15.out).mono ?_); rintro e w20 ⟨rfl, hb⟩; have n0_ := Aside0.mk (below_step (by repeat (first | (with_reducible first | exact HB.out | apply below_alloc | apply pw_below_drewN | apply below_drew1) | exact HB.out)) hb); clear HB; have HB := n0_; clear n0_; (try clear hb); (try clear hb2); (try clear hk); (try clear hi)) | (go_at_call 13; (with_reducible refine (event_Whole.calls t178 1 t179 t180 t181 _ A16.out).mono ?_); rintro e w21 ⟨v182, rfl, ho0, hb⟩; have n0_ := Aside0.mk (Kd.R_lower ho0 (below_size (by repeat (first | (with_reducible first | exact HB.out | apply below_alloc | apply pw_below_drewN | apply below_drew1) | exact HB.out)))); have n1_ := Aside0.mk (below_step (by repeat (first | (with_reducible first | exact HB.out | apply below_alloc | apply pw_below_drewN | apply below_drew1) | exact HB.out)) hb); clear HB; have HO183 := n0_; have HB := n1_; clear n0_ n1_; (try clear hb); (try clear hb2); (try clear hk); (try clear hi); (try clear ho0)) | (go_at_call 17; (with_reducible refine (gantletref09_Element.calls kj2 0 16 true 0 t178 t184 _ A17.out).mono ?_); rintro e w22 ⟨rfl, hb⟩; have n0_ := Aside0.mk (Kd.R_below (by (with_reducible repeat (first | apply Kd.R_alloc | apply Kd.R_drewN | apply Kd.R_drew)); exact HO183.out) hb); have n1_ := Aside0.mk (below_step (by repeat (first | (with_reducible first | exact HB.out | apply below_alloc | apply pw_below_drewN | apply below_drew1) | exact HB.out)) hb); clear HO183; clear HB; have HO183 := n0_; have HB := n1_; clear n0_ n1_; (try clear hb); (try clear hb2); (try clear hk); (try clear hi)) | (go_at_call 13; (with_reducible refine (event_Whole.calls t184 1 t185 t186 t187 _ A18.out).mono ?_); rintro e w23 ⟨v188, rfl, ho0, hb⟩; have n0_ := Aside0.mk (Kd.R_elder' (by (with_reducible repeat (first | apply Kd.R_alloc | apply Kd.R_drewN | apply Kd.R_drew)); exact HO183.out) (Kd.R_base ho0) hb); have n1_ := Aside0.mk (Kd.R_lower (Kd.R_new' ho0 (Kd.R_lt (by (with_reducible repeat (first | apply Kd.R_alloc | apply Kd.R_drewN | apply Kd.R_drew)); exact HO183.out))) (below_size (by repeat (first | (with_reducible first | exact HB.out | apply below_alloc | apply pw_below_drewN | apply below_drew1) | exact HB.out)))); have n2_ := Aside0.mk (below_step (by repeat (first | (with_reducible first | exact HB.out | apply below_alloc | apply pw_below_drewN | apply below_drew1) | exact HB.out)) hb); clear HO183; clear HB; have HO183 := n0_; have HO189 := n1_; have HB := n2_; clear n0_ n1_ n2_; (try clear hb); (try clear hb2); (try clear hk); (try clear hi); (try clear ho0))); go_upto_region 6 with (first | (go_at_call 17; (with_reducible refine (gantletref09_Element.calls kj2 0 a0 false 0 a1 t178 _ A15.out).mono ?_); rintro e w20 ⟨rfl, hb⟩; have n0_ := Aside0.mk (below_step (by repeat (first | (with_reducible first | exact HB.out | apply below_alloc | apply pw_below_drewN | apply below_drew1) | exact HB.out)) hb); clear HB; have HB := n0_; clear n0_; (try clear hb); (try clear hb2); (try clear hk); (try clear hi)) | (go_at_call 13; (with_reducible refine (event_Whole.calls t178 1 t179 t180 t181 _ A16.out).mono ?_); rintro e w21 ⟨v182, rfl, ho0, hb⟩; have n0_ := Aside0.mk (Kd.R_lower ho0 (below_size (by repeat (first | (with_reducible first | exact HB.out | apply below_alloc | apply pw_below_drewN | apply below_drew1) | exact HB.out)))); have n1_ := Aside0.mk (below_step (by repeat (first | (with_reducible first | exact HB.out | apply below_alloc | apply pw_below_drewN | apply below_drew1) | exact HB.out)) hb); clear HB; have HO183 := n0_; have HB := n1_; clear n0_ n1_; (try clear hb); (try clear hb2); (try clear hk); (try clear hi); (try clear ho0)) | (go_at_call 17; (with_reducible refine (gantletref09_Element.calls kj2 0 16 true 0 t178 t184 _ A17.out).mono ?_); rintro e w22 ⟨rfl, hb⟩; have n0_ := Aside0.mk (Kd.R_below (by (with_reducible repeat (first | apply Kd.R_alloc | apply Kd.R_drewN | apply Kd.R_drew)); exact HO183.out) hb); have n1_ := Aside0.mk (below_step (by repeat (first | (with_reducible first | exact HB.out | apply below_alloc | apply pw_below_drewN | apply below_drew1) | exact HB.out)) hb); clear HO183; clear HB; have HO183 := n0_; have HB := n1_; clear n0_ n1_; (try clear hb); (try clear hb2); (try clear hk); (try clear hi)) | (go_at_call 13; (with_reducible refine (event_Whole.calls t184 1 t185 t186 t187 _ A18.out).mono ?_); rintro e w23 ⟨v188, rfl, ho0, hb⟩; have n0_ := Aside0.mk (Kd.R_elder' (by (with_reducible repeat (first | apply Kd.R_alloc | apply Kd.R_drewN | apply Kd.R_drew)); exact HO183.out) (Kd.R_base ho0) hb); have n1_ := Aside0.mk (Kd.R_lower (Kd.R_new' ho0 (Kd.R_lt (by (with_reducible repeat (first | apply Kd.R_alloc | apply Kd.R_drewN | apply Kd.R_drew)); exact HO183.out))) (below_size (by repeat (first | (with_reducible first | exact HB.out | apply below_alloc | apply pw_below_drewN | apply below_drew1) | exact HB.out)))); have n2_ := Aside0.mk (below_step (by repeat (first | (with_reducible first | exact HB.out | apply below_alloc | apply pw_below_drewN | apply below_drew1) | exact HB.out)) hb); clear HO183; clear HB; have HO183 := n0_; have HO189 := n1_; have HB := n2_; clear n0_ n1_ n2_; (try clear hb); (try clear hb2); (try clear hk); (try clear hi); (try clear ho0))))
        (try simp only [Act.put, List.setIfInBounds_toArray, List.set_cons_zero, List.set_cons_succ])
        go_cut [70] (fun v70 wc => ∃ (kq : Nat) (x70_18 : Bool), v70 = .bool x70_18 ∧ Aside0 (gantletlaw09_EventOne.j1 kq t178 t179 t185 x70_18 = some r) ∧ Aside0 (kq ≤ kj2) ∧ Aside0 (Kd.R k36 36 wc w.heap.size (fun k_ => some k_ ≠ (v188 : Value).ownBlock) v182 t179) ∧ Aside0 (Kd.R k36 36 wc w.heap.size (fun k_ => some k_ ≠ (v182 : Value).ownBlock) v188 t185) ∧ Aside0 (Below w.heap.size w wc))
        case first =>
          have H := HC19.out
          clear HC19
          by_cases c24 : t180 = 0
          · rw [if_pos c24] at H
            have c24b0 : (t180 == 0) = true := beq_iff_eq.mpr c24
            have c24b1 : (t180 != 0) = false := bne_eq_false_iff_eq.mpr c24
            clear c24
            (first | rw [c24b0] | (simp only [i64_w, i32_w]; rw [c24b0]) | skip)
            by_cases c25 : t186 = 0
            · rw [if_pos c25] at H
              have c25b0 : (t186 == 0) = true := beq_iff_eq.mpr c25
              have c25b1 : (t186 != 0) = false := bne_eq_false_iff_eq.mpr c25
              clear c25
              by_cases c26 : (t179.length : Int) = (wrap64 ((a1.size : Int) + 2))
              · rw [if_pos c26] at H
                have c26b0 : ((t179.length : Int) == (wrap64 ((a1.size : Int) + 2))) = true := beq_iff_eq.mpr c26
                have c26b1 : ((t179.length : Int) != (wrap64 ((a1.size : Int) + 2))) = false := bne_eq_false_iff_eq.mpr c26
                (try (have c26w0 : ((t179.length : Int) == (((a1.size : Int) + 2))) = true := by (have hw_ : wrap64 ((a1.size : Int) + 2) = ((a1.size : Int) + 2) := by (unfold wrap64; omega)); have hx_ := c26b0; rw [hw_] at hx_; exact hx_))
                (try (have c26w1 : ((t179.length : Int) != (((a1.size : Int) + 2))) = false := by (have hw_ : wrap64 ((a1.size : Int) + 2) = ((a1.size : Int) + 2) := by (unfold wrap64; omega)); have hx_ := c26b1; rw [hw_] at hx_; exact hx_))
                clear c26
                have H' := Aside0.mk H
                clear H
                obtain ⟨Ao27, co27, eo27⟩ := Kd.R_slice HO183.out
                subst eo27
                obtain ⟨Ao28, co28, eo28⟩ := Kd.R_slice HO189.out
                subst eo28
                go_wp2
                repeat (go_quiet (fail); try go_wp2)
                go_meet
                case rel => exact ⟨_, (((t185.length : Int) != (wrap64 ((t179.length : Int) + 2)))), (by first | rfl | (simp; done) | (simp [*]; done) | (simp [show ∀ l : List UInt8, (!l.isEmpty) = (l != []) from fun l => by cases l <;> rfl]; done)), H', ⟨by have := HJ2.out; first | omega | exact Nat.le_refl _⟩, ⟨by (with_reducible repeat (first | apply Kd.R_alloc | apply Kd.R_drewN | apply Kd.R_drew)); exact Kd.R_mono HO183.out (fun _ hk => hk.2)⟩, ⟨by (with_reducible repeat (first | apply Kd.R_alloc | apply Kd.R_drewN | apply Kd.R_drew)); exact Kd.R_mono HO189.out (fun _ hk => hk.2)⟩, ⟨by repeat (first | (with_reducible first | exact HB.out | apply below_alloc | apply pw_below_drewN | apply below_drew1) | exact HB.out)⟩⟩
              · rw [if_neg c26] at H
                have c26b0 : ((t179.length : Int) == (wrap64 ((a1.size : Int) + 2))) = false := beq_eq_false_iff_ne.mpr c26
                have c26b1 : ((t179.length : Int) != (wrap64 ((a1.size : Int) + 2))) = true := bne_iff_ne.mpr c26
                (try (have c26w0 : ((t179.length : Int) == (((a1.size : Int) + 2))) = false := by (have hw_ : wrap64 ((a1.size : Int) + 2) = ((a1.size : Int) + 2) := by (unfold wrap64; omega)); have hx_ := c26b0; rw [hw_] at hx_; exact hx_))
                (try (have c26w1 : ((t179.length : Int) != (((a1.size : Int) + 2))) = true := by (have hw_ : wrap64 ((a1.size : Int) + 2) = ((a1.size : Int) + 2) := by (unfold wrap64; omega)); have hx_ := c26b1; rw [hw_] at hx_; exact hx_))
                have H' := Aside0.mk H
                clear H
                obtain ⟨Ao29, co29, eo29⟩ := Kd.R_slice HO183.out
                subst eo29
                go_wp2
                repeat (go_quiet (fail); try go_wp2)
                go_meet
                case rel => exact ⟨_, (true), (by first | rfl | (simp; done) | (simp [*]; done) | (simp [show ∀ l : List UInt8, (!l.isEmpty) = (l != []) from fun l => by cases l <;> rfl]; done)), H', ⟨by have := HJ2.out; first | omega | exact Nat.le_refl _⟩, ⟨by (with_reducible repeat (first | apply Kd.R_alloc | apply Kd.R_drewN | apply Kd.R_drew)); exact Kd.R_mono HO183.out (fun _ hk => hk.2)⟩, ⟨by (with_reducible repeat (first | apply Kd.R_alloc | apply Kd.R_drewN | apply Kd.R_drew)); exact Kd.R_mono HO189.out (fun _ hk => hk.2)⟩, ⟨by repeat (first | (with_reducible first | exact HB.out | apply below_alloc | apply pw_below_drewN | apply below_drew1) | exact HB.out)⟩⟩
            · rw [if_neg c25] at H
              have c25b0 : (t186 == 0) = false := beq_eq_false_iff_ne.mpr c25
              have c25b1 : (t186 != 0) = true := bne_iff_ne.mpr c25
              have H' := Aside0.mk H
              clear H
              go_wp2
              repeat (go_quiet (fail); try go_wp2)
              go_meet
              case rel => exact ⟨_, (true), (by first | rfl | (simp; done) | (simp [*]; done) | (simp [show ∀ l : List UInt8, (!l.isEmpty) = (l != []) from fun l => by cases l <;> rfl]; done)), H', ⟨by have := HJ2.out; first | omega | exact Nat.le_refl _⟩, ⟨by (with_reducible repeat (first | apply Kd.R_alloc | apply Kd.R_drewN | apply Kd.R_drew)); exact Kd.R_mono HO183.out (fun _ hk => hk.2)⟩, ⟨by (with_reducible repeat (first | apply Kd.R_alloc | apply Kd.R_drewN | apply Kd.R_drew)); exact Kd.R_mono HO189.out (fun _ hk => hk.2)⟩, ⟨by repeat (first | (with_reducible first | exact HB.out | apply below_alloc | apply pw_below_drewN | apply below_drew1) | exact HB.out)⟩⟩
          · rw [if_neg c24] at H
            have c24b0 : (t180 == 0) = false := beq_eq_false_iff_ne.mpr c24
            have c24b1 : (t180 != 0) = true := bne_iff_ne.mpr c24
            (first | rw [c24b0] | (simp only [i64_w, i32_w]; rw [c24b0]) | skip)
            have H' := Aside0.mk H
            clear H
            go_wp2
            repeat (go_quiet (fail); try go_wp2)
            go_meet
            case rel => exact ⟨_, (true), (by first | rfl | (simp; done) | (simp [*]; done) | (simp [show ∀ l : List UInt8, (!l.isEmpty) = (l != []) from fun l => by cases l <;> rfl]; done)), H', ⟨by have := HJ2.out; first | omega | exact Nat.le_refl _⟩, ⟨by (with_reducible repeat (first | apply Kd.R_alloc | apply Kd.R_drewN | apply Kd.R_drew)); exact Kd.R_mono HO183.out (fun _ hk => hk.2)⟩, ⟨by (with_reducible repeat (first | apply Kd.R_alloc | apply Kd.R_drewN | apply Kd.R_drew)); exact Kd.R_mono HO189.out (fun _ hk => hk.2)⟩, ⟨by repeat (first | (with_reducible first | exact HB.out | apply below_alloc | apply pw_below_drewN | apply below_drew1) | exact HB.out)⟩⟩
        case rest =>
          clear HC19
          try clear c1
          try clear c2
          try clear p2
          try clear c5
          try clear c6
          try clear c6b0
          try clear p6
          try clear c8
          try clear c8b0
          try clear c12
          try clear c24
          try clear c24b0
          try clear c24b1
          try clear c25
          try clear c25b0
          try clear c25b1
          try clear c26
          try clear c26b0
          try clear c26b1
          try clear p2
          obtain ⟨kq, x70_18, rfl, HA, HJ18, HO_6, HO_9, HB⟩ := hcut
          cases kq with
          | zero => exact absurd HA.out (by simp [gantletlaw09_EventOne.j1])
          | succ kj18 =>
            have H := HA.out
            clear HA
            simp only [gantletlaw09_EventOne.j1] at H
            by_cases c30 : x70_18 = true
            · subst c30
              have H1 : (none) = some r := by rw [if_pos rfl] at H; exact H
              clear H
              have H := H1
              clear H1
              exact absurd H (by simp)
            · replace c30 := Bool.eq_false_iff.mpr c30
              subst c30
              have H1 : (gantletlaw09_EventOne.l0 kj18 t178 t179 t185 t179 (t179.length : Int) 0) = some r := by rw [if_neg (show ¬ (false = true) by decide)] at H; exact H
              clear H
              have H := H1
              clear H1
              have H' := Aside0.mk H
              clear H
              obtain ⟨Ao31, co31, eo31⟩ := Kd.R_slice HO_6.out
              subst eo31
              go_wp2
              repeat (go_quiet (fail); try go_wp2)
              go_loopg [73] kj18 (fun kq v73 w' => ∃ (x73_3 : Int), v73 = .int .i64 x73_3 ∧ Aside0 (gantletlaw09_EventOne.l0 kq t178 t179 t185 t179 (t179.length : Int) x73_3 = some r) ∧ Aside0 (kq ≤ kj18) ∧ Aside0 (Kd.R k36 36 w' w.heap.size (fun k_ => some k_ ≠ (v188 : Value).ownBlock) (.slice Ao31 t179.length co31) t179) ∧ Aside0 (Kd.R k36 36 w' w.heap.size (fun k_ => some k_ ≠ ((.slice Ao31 t179.length co31) : Value).ownBlock ∧ some k_ ≠ ((.slice Ao31 t179.length co31) : Value).ownBlock) v188 t185) ∧ Aside0 (Kd.R k36 36 w' w.heap.size (fun k_ => some k_ ≠ (v188 : Value).ownBlock) (.slice Ao31 t179.length co31) t179) ∧ Aside0 (Below w.heap.size w w'))
              case atStart => exact ⟨(0), (by first | rfl | (simp; done) | (simp [*]; done) | (simp [show ∀ l : List UInt8, (!l.isEmpty) = (l != []) from fun l => by cases l <;> rfl]; done)), H', ⟨Nat.le_refl _⟩, ⟨by (with_reducible repeat (first | apply Kd.R_alloc | apply Kd.R_drewN | apply Kd.R_drew)); exact HO_6.out⟩, ⟨by (with_reducible repeat (first | apply Kd.R_alloc | apply Kd.R_drewN | apply Kd.R_drew)); exact Kd.R_mono HO_9.out (fun _ hk => ⟨hk, hk⟩)⟩, ⟨by (with_reducible repeat (first | apply Kd.R_alloc | apply Kd.R_drewN | apply Kd.R_drew)); exact HO_6.out⟩, ⟨by repeat (first | (with_reducible first | exact HB.out | apply below_alloc | apply pw_below_drewN | apply below_drew1) | exact HB.out)⟩⟩
              case round =>
                clear H'
                try clear c1
                try clear c2
                try clear p2
                try clear c3
                try clear c5
                try clear c6
                try clear c6b0
                try clear p6
                try clear c8
                try clear c8b0
                try clear c12
                try clear c24
                try clear c24b0
                try clear c24b1
                try clear c25
                try clear c25b0
                try clear c25b1
                try clear c26
                try clear c26b0
                try clear c26b1
                try clear c30
                try clear p2
                try clear p6
                obtain ⟨x73_3, rfl, HA, HK3, HO_6, HO_9, HO_71, HB⟩ := hrel
                cases gk with
                | zero => exact absurd HA.out (by simp [gantletlaw09_EventOne.l0])
                | succ k3 =>
                  have H := HA.out
                  clear HA
                  simp only [gantletlaw09_EventOne.l0] at H
                  by_cases c32 : x73_3 < (t179.length : Int)
                  · rw [if_pos c32] at H
                    have c32b0 : decide (x73_3 < (t179.length : Int)) = true := decide_eq_true c32
                    clear c32
                    by_cases c33 : 0 ≤ x73_3
                    · rw [if_pos c33] at H
                      have c33b0 : decide (0 ≤ x73_3) = true := decide_eq_true c33
                      clear c33
                      by_cases c34 : x73_3 < (t179.length : Int)
                      · rw [if_pos c34] at H
                        have c34b0 : decide (x73_3 < (t179.length : Int)) = true := decide_eq_true c34
                        clear c34
                        obtain ⟨ji35, hji35⟩ : ∃ j_ : Int, (wrap64 (x73_3 + 1)) = j_ := ⟨_, rfl⟩
                        replace H : (if 0 ≤ (ji35) then (if (ji35) < (t185.length : Int) then (if ((rd_T36 t179 x73_3).f0) = ((rd_T36 t185 (ji35)).f0) then (if (!(((rd_T36 t179 x73_3).f2.f0) == ((rd_T36 t185 (ji35)).f2.f0)) || (!(((rd_T36 t179 x73_3).f2.f1) == ((rd_T36 t185 (ji35)).f2.f1)) || (!(((rd_T36 t179 x73_3).f2.f2) == ((rd_T36 t185 (ji35)).f2.f2)) || (!(((rd_T36 t179 x73_3).f2.f3) == ((rd_T36 t185 (ji35)).f2.f3)))))) = true then (none) else (if ((rd_T36 t179 x73_3).f3) = ((rd_T36 t185 (ji35)).f3) then (if 1 < (t185.length : Int) then (if 0 < (t179.length : Int) then (if (wrap64 (((rd_T36 t185 (ji35)).f1) - ((rd_T36 t179 x73_3).f1))) = (wrap64 (((rd_T36 t185 1).f1) - ((rd_T36 t179 0).f1))) then (gantletlaw09_EventOne.l0 k3 t178 t179 t185 t179 (t179.length : Int) ji35) else (none)) else (none)) else (none)) else (none))) else (none)) else (none)) else (none)) = some r := by first | (rw [hji35] at H; exact H) | (simp only [hji35] at H ⊢; exact H)
                        have hji35w : (IntKind.i64.wrap (x73_3 + 1)) = ji35 := (i64_w _).trans hji35
                        by_cases c36 : 0 ≤ (ji35)
                        · rw [if_pos c36] at H
                          have c36b0 : decide (0 ≤ (ji35)) = true := decide_eq_true c36
                          clear c36
                          by_cases c37 : (ji35) < (t185.length : Int)
                          · rw [if_pos c37] at H
                            have c37b0 : decide ((ji35) < (t185.length : Int)) = true := decide_eq_true c37
                            clear c37
                            by_cases c38 : ((rd_T36 t179 x73_3).f0) = ((rd_T36 t185 (ji35)).f0)
                            · rw [if_pos c38] at H
                              have c38b0 : (((rd_T36 t179 x73_3).f0) == ((rd_T36 t185 (ji35)).f0)) = true := beq_iff_eq.mpr c38
                              have c38b1 : (((rd_T36 t179 x73_3).f0) != ((rd_T36 t185 (ji35)).f0)) = false := bne_eq_false_iff_eq.mpr c38
                              clear c38
                              by_cases c39 : (!(((rd_T36 t179 x73_3).f2.f0) == ((rd_T36 t185 (ji35)).f2.f0)) || (!(((rd_T36 t179 x73_3).f2.f1) == ((rd_T36 t185 (ji35)).f2.f1)) || (!(((rd_T36 t179 x73_3).f2.f2) == ((rd_T36 t185 (ji35)).f2.f2)) || (!(((rd_T36 t179 x73_3).f2.f3) == ((rd_T36 t185 (ji35)).f2.f3)))))) = true
                              · rw [if_pos c39] at H
                                exact absurd H (by simp)
                              · rw [if_neg c39] at H
                                have c39b0 : (!(((rd_T36 t179 x73_3).f2.f0) == ((rd_T36 t185 (ji35)).f2.f0)) || (!(((rd_T36 t179 x73_3).f2.f1) == ((rd_T36 t185 (ji35)).f2.f1)) || (!(((rd_T36 t179 x73_3).f2.f2) == ((rd_T36 t185 (ji35)).f2.f2)) || (!(((rd_T36 t179 x73_3).f2.f3) == ((rd_T36 t185 (ji35)).f2.f3)))))) = false := by simpa using c39
                                clear c39
                                by_cases c40 : ((rd_T36 t179 x73_3).f3) = ((rd_T36 t185 (ji35)).f3)
                                · rw [if_pos c40] at H
                                  have c40b0 : (((rd_T36 t179 x73_3).f3) == ((rd_T36 t185 (ji35)).f3)) = true := beq_iff_eq.mpr c40
                                  have c40b1 : (((rd_T36 t179 x73_3).f3) != ((rd_T36 t185 (ji35)).f3)) = false := bne_eq_false_iff_eq.mpr c40
                                  clear c40
                                  by_cases c41 : 1 < (t185.length : Int)
                                  · rw [if_pos c41] at H
                                    have c41b0 : decide (1 < (t185.length : Int)) = true := decide_eq_true c41
                                    have c41b1 : decide (1 < t185.length) = true := decide_eq_true (by omega)
                                    clear c41
                                    by_cases c42 : 0 < (t179.length : Int)
                                    · rw [if_pos c42] at H
                                      have c42b0 : decide (0 < (t179.length : Int)) = true := decide_eq_true c42
                                      have c42b1 : decide (0 < t179.length) = true := decide_eq_true (by omega)
                                      clear c42
                                      by_cases c43 : (wrap64 (((rd_T36 t185 (ji35)).f1) - ((rd_T36 t179 x73_3).f1))) = (wrap64 (((rd_T36 t185 1).f1) - ((rd_T36 t179 0).f1)))
                                      · rw [if_pos c43] at H
                                        have c43b0 : ((wrap64 (((rd_T36 t185 (ji35)).f1) - ((rd_T36 t179 x73_3).f1))) == (wrap64 (((rd_T36 t185 1).f1) - ((rd_T36 t179 0).f1)))) = true := beq_iff_eq.mpr c43
                                        have c43b1 : ((wrap64 (((rd_T36 t185 (ji35)).f1) - ((rd_T36 t179 x73_3).f1))) != (wrap64 (((rd_T36 t185 1).f1) - ((rd_T36 t179 0).f1)))) = false := bne_eq_false_iff_eq.mpr c43
                                        clear c43
                                        have H' := Aside0.mk H
                                        clear H
                                        have p190 : 0 ≤ (x73_3 : Int) := of_decide_eq_true (by first | (with_reducible assumption) | assumption)
                                        have q190 : x73_3 < (t179.length : Int) := of_decide_eq_true (by first | (with_reducible assumption) | assumption)
                                        obtain ⟨ad190, e190, hx190_0, hx190_1, hx190_2, hx190_3, hx190_4, hx190_5, hx190_6⟩ := at_T36 (Kd.R_reads' HO_71.out).2.2 x73_3 p190 q190
                                        cases e190
                                        replace p190 := eq_true p190
                                        replace q190 := eq_true q190
                                        have c43b1z : ((IntKind.i64.wrap (((rd_T36 t185 (ji35)).f1) - ((rd_T36 t179 x73_3).f1))) != (IntKind.i64.wrap (((rd_T36 t185 1).f1) - ((rd_T36 t179 0).f1)))) = false := by simpa only [i64_w] using c43b1
                                        go_wp2_with (first
                                          | ((with_reducible refine gate_dst (N := 13) rfl ?_)
                                             (try (refine gate_guard (by rfl) ?_; dsimp only))
                                             refine boxnew ?hg (N := 13) ?hd (cs := #[.int .i64 0, .int .i64 0, .int .i64 0, .int .i64 0, .bool false, .int .i64 0, .int .u8 0]) (t := 36) ?hr ?_; (case hd => rfl); (case hg => rfl); (case hr => first | (go_simp; done) | (go_simp; rfl))
                                             intro g_x hge w_x hbox hu
                                             replace HO_6 := Aside0.mk (Kd.R_step (Kd.R_elderB (by (with_reducible repeat (first | apply Kd.R_alloc | apply Kd.R_drewN | apply Kd.R_drew)); exact HO_6.out) g_x hge) (hu.step (fun _ _ h => h)))
                                             replace HO_9 := Aside0.mk (Kd.R_step (Kd.R_elderB (by (with_reducible repeat (first | apply Kd.R_alloc | apply Kd.R_drewN | apply Kd.R_drew)); exact HO_9.out) g_x hge) (hu.step (fun _ _ h => h)))
                                             replace HO_71 := Aside0.mk (Kd.R_step (Kd.R_elderB (by (with_reducible repeat (first | apply Kd.R_alloc | apply Kd.R_drewN | apply Kd.R_drew)); exact HO_71.out) g_x hge) (hu.step (fun _ _ h => h)))
                                             have GE_x := Aside0.mk (Nat.le_trans (below_size (by repeat (first | (with_reducible first | exact HB.out | apply below_alloc | apply pw_below_drewN | apply below_drew1) | exact HB.out))) hge)
                                             have HU := Aside0.mk ((Upd.of_below (S := None0) (by repeat (first | (with_reducible first | exact HB.out | apply below_alloc | apply pw_below_drewN | apply below_drew1) | exact HB.out))).trans hu (fun _ h => h.elim))
                                             clear HB
                                             replace HU : Aside0 (Upd None0 w w_x) := HU
                                             have B_x := Aside0.mk hbox
                                             clear hbox hge hu)
                                          | ((with_reducible refine gate_store (t := 36) (p := 13) (v := .tmp 77) rfl ?_)
                                             refine rowput rfl 36 (.tmp 13) (.tmp 77) rfl rfl g_x #[.int .i64 ((rd_T36 t179 x73_3).f0), .int .i64 ((rd_T36 t179 x73_3).f1), .int .i64 ((rd_T36 t179 x73_3).f2.f0), .int .i64 ((rd_T36 t179 x73_3).f2.f1), .bool ((rd_T36 t179 x73_3).f2.f2), .int .i64 ((rd_T36 t179 x73_3).f2.f3), .int .u8 ((rd_T36 t179 x73_3).f3)] rfl rfl 36 #[.int .i64 0, .int .i64 0, .int .i64 0, .int .i64 0, .bool false, .int .i64 0, .int .u8 0] (by exact bl B_x) (by kernel_rfl) rfl (by simp [Value.oneCell']) ?_
                                             intro v_x hbox hu
                                             replace HO_6 := Aside0.mk (Kd.R_step (by (with_reducible repeat (first | apply Kd.R_alloc | apply Kd.R_drewN | apply Kd.R_drew)); exact HO_6.out) (hu.step (fun k (hk : _ ∧ k ≠ g_x) e => hk.2 e)))
                                             replace HO_9 := Aside0.mk (Kd.R_step (by (with_reducible repeat (first | apply Kd.R_alloc | apply Kd.R_drewN | apply Kd.R_drew)); exact HO_9.out) (hu.step (fun k (hk : _ ∧ k ≠ g_x) e => hk.2 e)))
                                             replace HO_71 := Aside0.mk (Kd.R_step (by (with_reducible repeat (first | apply Kd.R_alloc | apply Kd.R_drewN | apply Kd.R_drew)); exact HO_71.out) (hu.step (fun k (hk : _ ∧ k ≠ g_x) e => hk.2 e)))
                                             replace HU := Aside0.mk ((by exact ul HU : Upd None0 w _).trans hu (fun k hk => .inr (by rw [hk]; exact GE_x.out)))
                                             clear B_x
                                             have B_x := Aside0.mk hbox
                                             clear hbox hu
                                             have hc_x_0 := co B_x 0 (.int .i64 ((rd_T36 t179 x73_3).f0)) rfl
                                             have hc_x_1 := co B_x 1 (.int .i64 ((rd_T36 t179 x73_3).f1)) rfl
                                             have hc_x_2 := co B_x 2 (.int .i64 ((rd_T36 t179 x73_3).f2.f0)) rfl
                                             have hc_x_3 := co B_x 3 (.int .i64 ((rd_T36 t179 x73_3).f2.f1)) rfl
                                             have hc_x_4 := co B_x 4 (.bool ((rd_T36 t179 x73_3).f2.f2)) rfl
                                             have hc_x_5 := co B_x 5 (.int .i64 ((rd_T36 t179 x73_3).f2.f3)) rfl
                                             have hc_x_6 := co B_x 6 (.int .u8 ((rd_T36 t179 x73_3).f3)) rfl
                                             obtain ⟨Ao_, co_, eo_⟩ := Kd.R_slice HO_9.out
                                             subst eo_
                                             have py : 0 ≤ (ji35 : Int) := of_decide_eq_true (by first | (with_reducible assumption) | assumption)
                                             have qy : ji35 < (t185.length : Int) := of_decide_eq_true (by first | (with_reducible assumption) | assumption)
                                             obtain ⟨d_y, ey, hy_0, hy_1, hy_2, hy_3, hy_4, hy_5, hy_6⟩ := at_T36 (Kd.R_reads' HO_9.out).2.2 ji35 py qy
                                             cases ey
                                             replace py := eq_true py
                                             replace qy := eq_true qy)
                                          | ((with_reducible refine gate_dst (N := 14) rfl ?_)
                                             (try (refine gate_guard (by rfl) ?_; dsimp only))
                                             refine boxnew ?hg (N := 14) ?hd (cs := #[.int .i64 0, .int .i64 0, .int .i64 0, .int .i64 0, .bool false, .int .i64 0, .int .u8 0]) (t := 36) ?hr ?_; (case hd => rfl); (case hg => rfl); (case hr => first | (go_simp; done) | (go_simp; rfl))
                                             intro g_y hge w_y hbox hu
                                             have NE := Aside0.mk (blk_fresh (by exact bl B_x) hge)
                                             replace B_x := Aside0.mk (hu.blk (by exact bl B_x) (fun h => h))
                                             replace HO_6 := Aside0.mk (Kd.R_step (Kd.R_elderB (by (with_reducible repeat (first | apply Kd.R_alloc | apply Kd.R_drewN | apply Kd.R_drew)); exact HO_6.out) g_y hge) (hu.step (fun _ _ h => h)))
                                             replace HO_9 := Aside0.mk (Kd.R_step (Kd.R_elderB (by (with_reducible repeat (first | apply Kd.R_alloc | apply Kd.R_drewN | apply Kd.R_drew)); exact HO_9.out) g_y hge) (hu.step (fun _ _ h => h)))
                                             replace HO_71 := Aside0.mk (Kd.R_step (Kd.R_elderB (by (with_reducible repeat (first | apply Kd.R_alloc | apply Kd.R_drewN | apply Kd.R_drew)); exact HO_71.out) g_y hge) (hu.step (fun _ _ h => h)))
                                             have GE_y := Aside0.mk (Nat.le_trans ((by exact ul HU : Upd None0 w _).size) hge)
                                             replace HU := Aside0.mk ((by exact ul HU : Upd None0 w _).trans hu (fun _ h => h.elim))
                                             have B_y := Aside0.mk hbox
                                             clear hbox hge hu
                                             clear hc_x_0 hc_x_1 hc_x_2 hc_x_3 hc_x_4 hc_x_5 hc_x_6
                                             have hc_x_0 := co B_x 0 (.int .i64 ((rd_T36 t179 x73_3).f0)) rfl
                                             have hc_x_1 := co B_x 1 (.int .i64 ((rd_T36 t179 x73_3).f1)) rfl
                                             have hc_x_2 := co B_x 2 (.int .i64 ((rd_T36 t179 x73_3).f2.f0)) rfl
                                             have hc_x_3 := co B_x 3 (.int .i64 ((rd_T36 t179 x73_3).f2.f1)) rfl
                                             have hc_x_4 := co B_x 4 (.bool ((rd_T36 t179 x73_3).f2.f2)) rfl
                                             have hc_x_5 := co B_x 5 (.int .i64 ((rd_T36 t179 x73_3).f2.f3)) rfl
                                             have hc_x_6 := co B_x 6 (.int .u8 ((rd_T36 t179 x73_3).f3)) rfl)
                                          | ((with_reducible refine gate_store (t := 36) (p := 14) (v := .tmp 82) rfl ?_)
                                             refine rowput rfl 36 (.tmp 14) (.tmp 82) rfl rfl g_y #[.int .i64 ((rd_T36 t185 ji35).f0), .int .i64 ((rd_T36 t185 ji35).f1), .int .i64 ((rd_T36 t185 ji35).f2.f0), .int .i64 ((rd_T36 t185 ji35).f2.f1), .bool ((rd_T36 t185 ji35).f2.f2), .int .i64 ((rd_T36 t185 ji35).f2.f3), .int .u8 ((rd_T36 t185 ji35).f3)] rfl rfl 36 #[.int .i64 0, .int .i64 0, .int .i64 0, .int .i64 0, .bool false, .int .i64 0, .int .u8 0] (by exact bl B_y) (by kernel_rfl) rfl (by simp [Value.oneCell']) ?_
                                             intro v_y hbox hu
                                             replace HO_6 := Aside0.mk (Kd.R_step (by (with_reducible repeat (first | apply Kd.R_alloc | apply Kd.R_drewN | apply Kd.R_drew)); exact HO_6.out) (hu.step (fun k (hk : _ ∧ k ≠ g_y) e => hk.2 e)))
                                             replace HO_9 := Aside0.mk (Kd.R_step (by (with_reducible repeat (first | apply Kd.R_alloc | apply Kd.R_drewN | apply Kd.R_drew)); exact HO_9.out) (hu.step (fun k (hk : _ ∧ k ≠ g_y) e => hk.2 e)))
                                             replace HO_71 := Aside0.mk (Kd.R_step (by (with_reducible repeat (first | apply Kd.R_alloc | apply Kd.R_drewN | apply Kd.R_drew)); exact HO_71.out) (hu.step (fun k (hk : _ ∧ k ≠ g_y) e => hk.2 e)))
                                             replace B_x := Aside0.mk (hu.blk (by exact bl B_x) NE.out)
                                             replace HU := Aside0.mk ((by exact ul HU : Upd None0 w _).trans hu (fun k hk => .inr (by rw [hk]; exact GE_y.out)))
                                             clear B_y
                                             have B_y := Aside0.mk hbox
                                             clear hbox hu
                                             clear hc_x_0 hc_x_1 hc_x_2 hc_x_3 hc_x_4 hc_x_5 hc_x_6
                                             have hc_x_0 := co B_x 0 (.int .i64 ((rd_T36 t179 x73_3).f0)) rfl
                                             have hc_x_1 := co B_x 1 (.int .i64 ((rd_T36 t179 x73_3).f1)) rfl
                                             have hc_x_2 := co B_x 2 (.int .i64 ((rd_T36 t179 x73_3).f2.f0)) rfl
                                             have hc_x_3 := co B_x 3 (.int .i64 ((rd_T36 t179 x73_3).f2.f1)) rfl
                                             have hc_x_4 := co B_x 4 (.bool ((rd_T36 t179 x73_3).f2.f2)) rfl
                                             have hc_x_5 := co B_x 5 (.int .i64 ((rd_T36 t179 x73_3).f2.f3)) rfl
                                             have hc_x_6 := co B_x 6 (.int .u8 ((rd_T36 t179 x73_3).f3)) rfl
                                             have hc_y_0 := co B_y 0 (.int .i64 ((rd_T36 t185 ji35).f0)) rfl
                                             have hc_y_1 := co B_y 1 (.int .i64 ((rd_T36 t185 ji35).f1)) rfl
                                             have hc_y_2 := co B_y 2 (.int .i64 ((rd_T36 t185 ji35).f2.f0)) rfl
                                             have hc_y_3 := co B_y 3 (.int .i64 ((rd_T36 t185 ji35).f2.f1)) rfl
                                             have hc_y_4 := co B_y 4 (.bool ((rd_T36 t185 ji35).f2.f2)) rfl
                                             have hc_y_5 := co B_y 5 (.int .i64 ((rd_T36 t185 ji35).f2.f3)) rfl
                                             have hc_y_6 := co B_y 6 (.int .u8 ((rd_T36 t185 ji35).f3)) rfl
                                             have pl : 0 ≤ (0 : Int) := by omega
                                             have ql : 0 < (t179.length : Int) := of_decide_eq_true (by first | (with_reducible assumption) | assumption)
                                             obtain ⟨d_l, el, hl_0, hl_1, hl_2, hl_3, hl_4, hl_5, hl_6⟩ := at_T36 (Kd.R_reads' HO_6.out).2.2 0 pl ql
                                             obtain rfl : ad190 = d_l := (by injection el)
                                             have qil : (0 < t179.length) = True := eq_true (by omega)
                                             (try rw [show ((0 : Int)).toNat = 0 from rfl] at hl_0); (try rw [show 0 * 7 = 0 from rfl] at hl_0); (try rw [Addr.add_zero'] at hl_0)
                                             (try rw [show ((0 : Int)).toNat = 0 from rfl] at hl_1); (try rw [show 0 * 7 = 0 from rfl] at hl_1); (try rw [Addr.add_zero'] at hl_1)
                                             (try rw [show ((0 : Int)).toNat = 0 from rfl] at hl_2); (try rw [show 0 * 7 = 0 from rfl] at hl_2); (try rw [Addr.add_zero'] at hl_2)
                                             (try rw [show ((0 : Int)).toNat = 0 from rfl] at hl_3); (try rw [show 0 * 7 = 0 from rfl] at hl_3); (try rw [Addr.add_zero'] at hl_3)
                                             (try rw [show ((0 : Int)).toNat = 0 from rfl] at hl_4); (try rw [show 0 * 7 = 0 from rfl] at hl_4); (try rw [Addr.add_zero'] at hl_4)
                                             (try rw [show ((0 : Int)).toNat = 0 from rfl] at hl_5); (try rw [show 0 * 7 = 0 from rfl] at hl_5); (try rw [Addr.add_zero'] at hl_5)
                                             (try rw [show ((0 : Int)).toNat = 0 from rfl] at hl_6); (try rw [show 0 * 7 = 0 from rfl] at hl_6); (try rw [Addr.add_zero'] at hl_6)
                                             replace pl := eq_true pl
                                             replace ql := eq_true ql
                                             have pm : 0 ≤ (1 : Int) := by omega
                                             have qm : 1 < (t185.length : Int) := of_decide_eq_true (by first | (with_reducible assumption) | assumption)
                                             obtain ⟨d_m, em, hm_0, hm_1, hm_2, hm_3, hm_4, hm_5, hm_6⟩ := at_T36 (Kd.R_reads' HO_9.out).2.2 1 pm qm
                                             obtain rfl : d_y = d_m := (by injection em)
                                             have qim : (1 < t185.length) = True := eq_true (by omega)
                                             (try rw [show ((1 : Int)).toNat = 1 from rfl] at hm_0); (try rw [show 1 * 7 = 7 from rfl] at hm_0)
                                             (try rw [show ((1 : Int)).toNat = 1 from rfl] at hm_1); (try rw [show 1 * 7 = 7 from rfl] at hm_1)
                                             (try rw [show ((1 : Int)).toNat = 1 from rfl] at hm_2); (try rw [show 1 * 7 = 7 from rfl] at hm_2)
                                             (try rw [show ((1 : Int)).toNat = 1 from rfl] at hm_3); (try rw [show 1 * 7 = 7 from rfl] at hm_3)
                                             (try rw [show ((1 : Int)).toNat = 1 from rfl] at hm_4); (try rw [show 1 * 7 = 7 from rfl] at hm_4)
                                             (try rw [show ((1 : Int)).toNat = 1 from rfl] at hm_5); (try rw [show 1 * 7 = 7 from rfl] at hm_5)
                                             (try rw [show ((1 : Int)).toNat = 1 from rfl] at hm_6); (try rw [show 1 * 7 = 7 from rfl] at hm_6)
                                             (try simp only [Addr.add, show ¬ ((7 : Nat) = 0) by decide, if_false] at hm_0)
                                             (try simp only [Addr.add, show ¬ ((7 : Nat) = 0) by decide, if_false] at hm_1)
                                             (try simp only [Addr.add, show ¬ ((7 : Nat) = 0) by decide, if_false] at hm_2)
                                             (try simp only [Addr.add, show ¬ ((7 : Nat) = 0) by decide, if_false] at hm_3)
                                             (try simp only [Addr.add, show ¬ ((7 : Nat) = 0) by decide, if_false] at hm_4)
                                             (try simp only [Addr.add, show ¬ ((7 : Nat) = 0) by decide, if_false] at hm_5)
                                             (try simp only [Addr.add, show ¬ ((7 : Nat) = 0) by decide, if_false] at hm_6)
                                             replace pm := eq_true pm
                                             replace qm := eq_true qm))
                                        repeat (go_quiet (fail); try go_wp2)
                                        go_roundg k3
                                        case measure => have := HJ2.out; have := HJ18.out; have := HK3.out; omega
                                        case rel => exact ⟨(ji35), (by first | rfl | (simp; done) | (simp only [← hji35] <;> (first | rfl | simp)) | (simp [*]; done)), H', ⟨by have := HJ2.out; have := HJ18.out; have := HK3.out; omega⟩, ⟨Kd.R_mono (by (with_reducible repeat (first | apply Kd.R_alloc | apply Kd.R_drewN | apply Kd.R_drew)); exact HO_6.out) (fun k (hk : (_ ∧ k ≠ g_x) ∧ k ≠ g_y) => hk.1.1)⟩, ⟨Kd.R_mono (by (with_reducible repeat (first | apply Kd.R_alloc | apply Kd.R_drewN | apply Kd.R_drew)); exact HO_9.out) (fun k (hk : (_ ∧ k ≠ g_x) ∧ k ≠ g_y) => hk.1.1)⟩, ⟨Kd.R_mono (by (with_reducible repeat (first | apply Kd.R_alloc | apply Kd.R_drewN | apply Kd.R_drew)); exact HO_71.out) (fun k (hk : (_ ∧ k ≠ g_x) ∧ k ≠ g_y) => hk.1.1)⟩, ⟨(by exact ul HU : Upd None0 w _).below0⟩⟩
                                      · rw [if_neg c43] at H
                                        exact absurd H (by simp)
                                    · rw [if_neg c42] at H
                                      exact absurd H (by simp)
                                  · rw [if_neg c41] at H
                                    exact absurd H (by simp)
                                · rw [if_neg c40] at H
                                  exact absurd H (by simp)
                            · rw [if_neg c38] at H
                              exact absurd H (by simp)
                          · rw [if_neg c37] at H
                            exact absurd H (by simp)
                        · rw [if_neg c36] at H
                          exact absurd H (by simp)
                      · rw [if_neg c34] at H
                        exact absurd H (by simp)
                    · rw [if_neg c33] at H
                      exact absurd H (by simp)
                  · rw [if_neg c32] at H
                    have c32b0 : decide (x73_3 < (t179.length : Int)) = false := decide_eq_false c32
                    clear c32
                    by_cases c51 : 0 < (t185.length : Int)
                    · rw [if_pos c51] at H
                      have c51b0 : decide (0 < (t185.length : Int)) = true := decide_eq_true c51
                      have c51b1 : decide (0 < t185.length) = true := decide_eq_true (by omega)
                      clear c51
                      by_cases c52 : ((rd_T36 t185 0).f0) = 1
                      · rw [if_pos c52] at H
                        have c52b0 : (((rd_T36 t185 0).f0) == 1) = true := beq_iff_eq.mpr c52
                        have c52b1 : (((rd_T36 t185 0).f0) != 1) = false := bne_eq_false_iff_eq.mpr c52
                        clear c52
                        by_cases c53 : ((rd_T36 t185 0).f2.f3) = (t178.size : Int)
                        · rw [if_pos c53] at H
                          have c53b0 : (((rd_T36 t185 0).f2.f3) == (t178.size : Int)) = true := beq_iff_eq.mpr c53
                          have c53b1 : (((rd_T36 t185 0).f2.f3) != (t178.size : Int)) = false := bne_eq_false_iff_eq.mpr c53
                          clear c53
                          obtain ⟨ji54, hji54⟩ : ∃ j_ : Int, (wrap64 ((t185.length : Int) - 1)) = j_ := ⟨_, rfl⟩
                          replace H : (if 0 ≤ (ji54) then (if (ji54) < (t185.length : Int) then (some (((rd_T36 t185 (ji54)).f0) == 5)) else (none)) else (none)) = some r := by first | (rw [hji54] at H; exact H) | (simp only [hji54] at H ⊢; exact H)
                          have hji54w : (IntKind.i64.wrap ((t185.length : Int) - 1)) = ji54 := (i64_w _).trans hji54
                          by_cases c55 : 0 ≤ (ji54)
                          · rw [if_pos c55] at H
                            have c55b0 : decide (0 ≤ (ji54)) = true := decide_eq_true c55
                            clear c55
                            by_cases c56 : (ji54) < (t185.length : Int)
                            · rw [if_pos c56] at H
                              have c56b0 : decide ((ji54) < (t185.length : Int)) = true := decide_eq_true c56
                              clear c56
                              obtain rfl := Option.some.inj H
                              obtain ⟨Ao57, co57, eo57⟩ := Kd.R_slice HO_9.out
                              subst eo57
                              have p196 : 0 ≤ (0 : Int) := (by omega)
                              have q196 : 0 < (t185.length : Int) := of_decide_eq_true (by first | (with_reducible assumption) | assumption)
                              obtain ⟨ad196, e196, hx196_0, hx196_1, hx196_2, hx196_3, hx196_4, hx196_5, hx196_6⟩ := at_T36 (Kd.R_reads' HO_9.out).2.2 0 p196 q196
                              cases e196
                              have qi196 : (0 < t185.length) = True := eq_true (by omega)
                              (try rw [show ((0 : Int)).toNat = 0 from rfl] at hx196_0)
                              (try rw [show 0 * 7 = 0 from rfl] at hx196_0)
                              (try rw [Addr.add_zero'] at hx196_0)
                              (try rw [show ((0 : Int)).toNat = 0 from rfl] at hx196_1)
                              (try rw [show 0 * 7 = 0 from rfl] at hx196_1)
                              (try rw [Addr.add_zero'] at hx196_1)
                              (try rw [show ((0 : Int)).toNat = 0 from rfl] at hx196_2)
                              (try rw [show 0 * 7 = 0 from rfl] at hx196_2)
                              (try rw [Addr.add_zero'] at hx196_2)
                              (try rw [show ((0 : Int)).toNat = 0 from rfl] at hx196_3)
                              (try rw [show 0 * 7 = 0 from rfl] at hx196_3)
                              (try rw [Addr.add_zero'] at hx196_3)
                              (try rw [show ((0 : Int)).toNat = 0 from rfl] at hx196_4)
                              (try rw [show 0 * 7 = 0 from rfl] at hx196_4)
                              (try rw [Addr.add_zero'] at hx196_4)
                              (try rw [show ((0 : Int)).toNat = 0 from rfl] at hx196_5)
                              (try rw [show 0 * 7 = 0 from rfl] at hx196_5)
                              (try rw [Addr.add_zero'] at hx196_5)
                              (try rw [show ((0 : Int)).toNat = 0 from rfl] at hx196_6)
                              (try rw [show 0 * 7 = 0 from rfl] at hx196_6)
                              (try rw [Addr.add_zero'] at hx196_6)
                              replace p196 := eq_true p196
                              replace q196 := eq_true q196
                              have p197 : 0 ≤ (0 : Int) := (by omega)
                              have q197 : 0 < (t185.length : Int) := of_decide_eq_true (by first | (with_reducible assumption) | assumption)
                              obtain ⟨ad197, e197, hx197_0, hx197_1, hx197_2, hx197_3, hx197_4, hx197_5, hx197_6⟩ := at_T36 (Kd.R_reads' HO_9.out).2.2 0 p197 q197
                              obtain rfl : ad196 = ad197 := (by injection e197)
                              have qi197 : (0 < t185.length) = True := eq_true (by omega)
                              (try rw [show ((0 : Int)).toNat = 0 from rfl] at hx197_0)
                              (try rw [show 0 * 7 = 0 from rfl] at hx197_0)
                              (try rw [Addr.add_zero'] at hx197_0)
                              (try rw [show ((0 : Int)).toNat = 0 from rfl] at hx197_1)
                              (try rw [show 0 * 7 = 0 from rfl] at hx197_1)
                              (try rw [Addr.add_zero'] at hx197_1)
                              (try rw [show ((0 : Int)).toNat = 0 from rfl] at hx197_2)
                              (try rw [show 0 * 7 = 0 from rfl] at hx197_2)
                              (try rw [Addr.add_zero'] at hx197_2)
                              (try rw [show ((0 : Int)).toNat = 0 from rfl] at hx197_3)
                              (try rw [show 0 * 7 = 0 from rfl] at hx197_3)
                              (try rw [Addr.add_zero'] at hx197_3)
                              (try rw [show ((0 : Int)).toNat = 0 from rfl] at hx197_4)
                              (try rw [show 0 * 7 = 0 from rfl] at hx197_4)
                              (try rw [Addr.add_zero'] at hx197_4)
                              (try rw [show ((0 : Int)).toNat = 0 from rfl] at hx197_5)
                              (try rw [show 0 * 7 = 0 from rfl] at hx197_5)
                              (try rw [Addr.add_zero'] at hx197_5)
                              (try rw [show ((0 : Int)).toNat = 0 from rfl] at hx197_6)
                              (try rw [show 0 * 7 = 0 from rfl] at hx197_6)
                              (try rw [Addr.add_zero'] at hx197_6)
                              replace p197 := eq_true p197
                              replace q197 := eq_true q197
                              have p198 : 0 ≤ ((ji54) : Int) := of_decide_eq_true (by first | (with_reducible assumption) | assumption)
                              have q198 : (ji54) < (t185.length : Int) := of_decide_eq_true (by first | (with_reducible assumption) | assumption)
                              obtain ⟨ad198, e198, hx198_0, hx198_1, hx198_2, hx198_3, hx198_4, hx198_5, hx198_6⟩ := at_T36 (Kd.R_reads' HO_9.out).2.2 (ji54) p198 q198
                              obtain rfl : ad196 = ad198 := (by injection e198)
                              replace p198 := eq_true p198
                              replace q198 := eq_true q198
                              go_wp2
                              repeat (go_quiet (fail); try go_wp2)
                              go_ret
                              exact ⟨by first | rfl | (simp [errW_none, errW_some] <;> rfl) | (simp only [← hji54]; first | rfl | (simp [errW_none, errW_some] <;> rfl)) | (simp [*, errW_none, errW_some] <;> rfl), by repeat (first | (with_reducible first | exact HB.out | apply below_alloc | apply pw_below_drewN | apply below_drew1) | exact HB.out)⟩
                            · rw [if_neg c56] at H
                              exact absurd H (by simp)
                          · rw [if_neg c55] at H
                            exact absurd H (by simp)
                        · rw [if_neg c53] at H
                          exact absurd H (by simp)
                      · rw [if_neg c52] at H
                        exact absurd H (by simp)
                    · rw [if_neg c51] at H
                      exact absurd H (by simp)

/-- THE ONE PURE STATEMENT of gantletlaw09_EventOne: yours. -/
def gantletlaw09_EventOne.Pure : Prop := ∀ (a0 : Int) (a1 : ByteArray), (Lit.int .i64 a0).wf = true → a1.size ≤ 140737488351232 → ∃ k, gantletlaw09_EventOne.f k a0 a1 = some true
theorem gantletlaw09_EventOne.walk (P : gantletlaw09_EventOne.Pure) (a0 : Int) (a1 : ByteArray) (w : World) (w0 : (Lit.int .i64 a0).wf = true) (w1 : a1.size ≤ 140737488351232) :
    Calls Try.prog 8 #[.int .i64 a0, .string a1] w fun e w' => e = .returned (.bool true) ∧ Below w.heap.size w w' := by
  obtain ⟨k, h⟩ := P a0 a1 w0 w1
  refine (gantletlaw09_EventOne.calls k a0 a1 true w h).mono ?_
  rintro e w' ⟨rfl, hd⟩
  exact ⟨rfl, hd⟩

end Go.Proofs.Ytomaajagncjiiaa.PB
