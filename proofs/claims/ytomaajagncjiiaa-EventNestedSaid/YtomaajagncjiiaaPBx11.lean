-- Written by a program of this session (print2, a turned print): not PRINTED BY print.sh
import Derived.Test.YtomaajagncjiiaaPBx0
import Derived.Test.YtomaajagncjiiaaPBx8
import Derived.Test.YtomaajagncjiiaaPBx9
namespace Go.Proofs.Ytomaajagncjiiaa.PB
open Go.RowKit Go.Proofs.YtomaajagncjiiaaW.PrintWords Go.Proofs.YtomaajagncjiiaaW.PrintLast Go.Proofs.YtomaajagncjiiaaW.PrintMore
attribute [local go_sem] max2_int min2_int max_two min_two max_three min_three max_four min_four   -- for this text's walks alone
set_option linter.unusedVariables false
set_option linter.unusedSimpArgs false

/-! ### gantletlaw09_EventNested: function 5 -/
mutual
def gantletlaw09_EventNested.j0 : Nat → ByteArray → Int → Bool → Option (Bool)
  | 0, _, _, _ => none
  | k + 1, x0, x1, x18 => if x18 = true then ((gantletlaw09_awake.f k).bind fun t147 => (some t147)) else ((event_Whole.f x0 x1).bind fun bt148 => (gantletlaw09_EventNested.l0 k x0 x1 bt148.2.1 0 false 0 bt148.1 (bt148.1.length : Int) 0))
def gantletlaw09_EventNested.l0 : Nat → ByteArray → Int → Int → Int → Bool → Int → List (S36) → Int → Int → Option (Bool)
  | 0, _, _, _, _, _, _, _, _, _ => none
  | k + 1, x0, x1, x6, x8, x9, x10, x27, x28, x29 => if x29 < x28 then (if 0 ≤ x29 then (if x29 < (x27.length : Int) then (if ((rd_T36 x27 x29).f1) < x10 then (gantletlaw09_EventNested.j2 k x0 x1 x6 x8 x9 x27 x28 x29 true ((rd_T36 x27 x29).f0) ((rd_T36 x27 x29).f1) ((rd_T36 x27 x29).f2.f0) ((rd_T36 x27 x29).f2.f1) ((rd_T36 x27 x29).f2.f2) ((rd_T36 x27 x29).f2.f3) ((rd_T36 x27 x29).f3)) else (gantletlaw09_EventNested.j2 k x0 x1 x6 x8 x9 x27 x28 x29 (decide (((rd_T36 x27 x29).f1) ≥ (x0.size : Int))) ((rd_T36 x27 x29).f0) ((rd_T36 x27 x29).f1) ((rd_T36 x27 x29).f2.f0) ((rd_T36 x27 x29).f2.f1) ((rd_T36 x27 x29).f2.f2) ((rd_T36 x27 x29).f2.f3) ((rd_T36 x27 x29).f3))) else (none)) else (none)) else (if x6 = 0 then (if x8 = 0 then (some (!x9)) else (none)) else (some true))
def gantletlaw09_EventNested.j2 : Nat → ByteArray → Int → Int → Int → Bool → List (S36) → Int → Int → Bool → Int → Int → Int → Int → Bool → Int → Int → Option (Bool)
  | 0, _, _, _, _, _, _, _, _, _, _, _, _, _, _, _, _ => none
  | k + 1, x0, x1, x6, x8, x9, x27, x28, x29, x43, x155000, x155001, x155002, x155003, x155004, x155005, x155006 => if x43 = true then (none) else (if x155000 = 1 then (if (wrap64 (x8 + 1)) < 0 then (none) else (if (wrap64 (x8 + 1)) > (mx x1 0) then (none) else (if x155000 = 2 then (if (x9 != true) = true then (none) else (gantletlaw09_EventNested.l0 k x0 x1 x6 (wrap64 (x8 + 1)) x9 x155001 x27 x28 (wrap64 (x29 + 1)))) else (if (x9 != (x155000 == 3)) = true then (none) else (gantletlaw09_EventNested.l0 k x0 x1 x6 (wrap64 (x8 + 1)) x9 x155001 x27 x28 (wrap64 (x29 + 1))))))) else (if x155000 = 5 then (if (wrap64 (x8 - 1)) < 0 then (none) else (if (wrap64 (x8 - 1)) > (mx x1 0) then (none) else (if x155000 = 2 then (if (x9 != true) = true then (none) else (gantletlaw09_EventNested.l0 k x0 x1 x6 (wrap64 (x8 - 1)) x9 x155001 x27 x28 (wrap64 (x29 + 1)))) else (if (x9 != (x155000 == 3)) = true then (none) else (gantletlaw09_EventNested.l0 k x0 x1 x6 (wrap64 (x8 - 1)) x9 x155001 x27 x28 (wrap64 (x29 + 1))))))) else (if x155000 = 2 then (gantletlaw09_EventNested.j3 k x0 x1 x6 x8 x9 x155001 x27 x28 x29 x155000 (x155000 == 2) x155000 x155001 x155002 x155003 x155004 x155005 x155006) else (gantletlaw09_EventNested.j3 k x0 x1 x6 x8 x9 x155001 x27 x28 x29 x155000 (x155000 == 4) x155000 x155001 x155002 x155003 x155004 x155005 x155006))))
def gantletlaw09_EventNested.j3 : Nat → ByteArray → Int → Int → Int → Bool → Int → List (S36) → Int → Int → Int → Bool → Int → Int → Int → Int → Bool → Int → Int → Option (Bool)
  | 0, _, _, _, _, _, _, _, _, _, _, _, _, _, _, _, _, _, _ => none
  | k + 1, x0, x1, x6, x8, x9, x10, x27, x28, x29, x47, x56, x155000, x155001, x155002, x155003, x155004, x155005, x155006 => if x56 = true then (if x8 < 0 then (none) else (if x8 > (mx x1 0) then (none) else (if x155000 = 2 then (if ((!x9) != true) = true then (none) else (gantletlaw09_EventNested.l0 k x0 x1 x6 x8 (!x9) x10 x27 x28 (wrap64 (x29 + 1)))) else (if ((!x9) != (x155000 == 3)) = true then (none) else (gantletlaw09_EventNested.l0 k x0 x1 x6 x8 (!x9) x10 x27 x28 (wrap64 (x29 + 1))))))) else (if x47 = 3 then (if x9 = true then (if 0 ≤ x155001 then (if x155001 < (x0.size : Int) then (gantletlaw09_EventNested.j4 k x0 x1 x6 x8 x9 x10 x27 x28 x29 (x155006 != (bt x0 x155001)) x155000 x155001 x155002 x155003 x155004 x155005 x155006) else (none)) else (none)) else (gantletlaw09_EventNested.j4 k x0 x1 x6 x8 x9 x10 x27 x28 x29 true x155000 x155001 x155002 x155003 x155004 x155005 x155006)) else (if x8 < 0 then (none) else (if x8 > (mx x1 0) then (none) else (if x155000 = 2 then (if (x9 != true) = true then (none) else (gantletlaw09_EventNested.l0 k x0 x1 x6 x8 x9 x10 x27 x28 (wrap64 (x29 + 1)))) else (if (x9 != (x155000 == 3)) = true then (none) else (gantletlaw09_EventNested.l0 k x0 x1 x6 x8 x9 x10 x27 x28 (wrap64 (x29 + 1))))))))
def gantletlaw09_EventNested.j4 : Nat → ByteArray → Int → Int → Int → Bool → Int → List (S36) → Int → Int → Bool → Int → Int → Int → Int → Bool → Int → Int → Option (Bool)
  | 0, _, _, _, _, _, _, _, _, _, _, _, _, _, _, _, _, _ => none
  | k + 1, x0, x1, x6, x8, x9, x10, x27, x28, x29, x73, x155000, x155001, x155002, x155003, x155004, x155005, x155006 => if x73 = true then (none) else (if x8 < 0 then (none) else (if x8 > (mx x1 0) then (none) else (if x155000 = 2 then (if (x9 != true) = true then (none) else (gantletlaw09_EventNested.l0 k x0 x1 x6 x8 x9 x10 x27 x28 (wrap64 (x29 + 1)))) else (if (x9 != (x155000 == 3)) = true then (none) else (gantletlaw09_EventNested.l0 k x0 x1 x6 x8 x9 x10 x27 x28 (wrap64 (x29 + 1)))))))
end
def gantletlaw09_EventNested.f (k : Nat) (a0 : ByteArray) (a1 : Int) : Option (Bool) := (gantletlaw09_awake.f k).bind fun t145 => (if t145 = true then ((gantletlaw09_great.f a0).bind fun t146 => (gantletlaw09_EventNested.j0 k a0 a1 t146)) else (gantletlaw09_EventNested.j0 k a0 a1 true))
theorem gantletlaw09_EventNested.mono_l : ∀ k, (∀ y0 y1 y2, LeO (gantletlaw09_EventNested.j0 k y0 y1 y2) (gantletlaw09_EventNested.j0 (k + 1) y0 y1 y2)) ∧ (∀ y0 y1 y2 y3 y4 y5 y6 y7 y8, LeO (gantletlaw09_EventNested.l0 k y0 y1 y2 y3 y4 y5 y6 y7 y8) (gantletlaw09_EventNested.l0 (k + 1) y0 y1 y2 y3 y4 y5 y6 y7 y8)) ∧ (∀ y0 y1 y2 y3 y4 y5 y6 y7 y8 y9 y10 y11 y12 y13 y14 y15, LeO (gantletlaw09_EventNested.j2 k y0 y1 y2 y3 y4 y5 y6 y7 y8 y9 y10 y11 y12 y13 y14 y15) (gantletlaw09_EventNested.j2 (k + 1) y0 y1 y2 y3 y4 y5 y6 y7 y8 y9 y10 y11 y12 y13 y14 y15)) ∧ (∀ y0 y1 y2 y3 y4 y5 y6 y7 y8 y9 y10 y11 y12 y13 y14 y15 y16 y17, LeO (gantletlaw09_EventNested.j3 k y0 y1 y2 y3 y4 y5 y6 y7 y8 y9 y10 y11 y12 y13 y14 y15 y16 y17) (gantletlaw09_EventNested.j3 (k + 1) y0 y1 y2 y3 y4 y5 y6 y7 y8 y9 y10 y11 y12 y13 y14 y15 y16 y17)) ∧ (∀ y0 y1 y2 y3 y4 y5 y6 y7 y8 y9 y10 y11 y12 y13 y14 y15 y16, LeO (gantletlaw09_EventNested.j4 k y0 y1 y2 y3 y4 y5 y6 y7 y8 y9 y10 y11 y12 y13 y14 y15 y16) (gantletlaw09_EventNested.j4 (k + 1) y0 y1 y2 y3 y4 y5 y6 y7 y8 y9 y10 y11 y12 y13 y14 y15 y16))
  | 0 => ⟨fun _ _ _ r h => by simp [gantletlaw09_EventNested.j0] at h, fun _ _ _ _ _ _ _ _ _ r h => by simp [gantletlaw09_EventNested.l0] at h, fun _ _ _ _ _ _ _ _ _ _ _ _ _ _ _ _ r h => by simp [gantletlaw09_EventNested.j2] at h, fun _ _ _ _ _ _ _ _ _ _ _ _ _ _ _ _ _ _ r h => by simp [gantletlaw09_EventNested.j3] at h, fun _ _ _ _ _ _ _ _ _ _ _ _ _ _ _ _ _ r h => by simp [gantletlaw09_EventNested.j4] at h⟩
  | k + 1 => by
    obtain ⟨ih0, ih1, ih2, ih3, ih4⟩ := gantletlaw09_EventNested.mono_l k
    refine ⟨?_, ?_, ?_, ?_, ?_⟩
    · intro y0 y1 y2
      unfold gantletlaw09_EventNested.j0
      repeat' first
      | (with_reducible exact ih0 _ _ _)
      | (with_reducible exact ih1 _ _ _ _ _ _ _ _ _)
      | (with_reducible exact ih2 _ _ _ _ _ _ _ _ _ _ _ _ _ _ _ _)
      | (with_reducible exact ih3 _ _ _ _ _ _ _ _ _ _ _ _ _ _ _ _ _ _)
      | (with_reducible exact ih4 _ _ _ _ _ _ _ _ _ _ _ _ _ _ _ _ _)
      | (with_reducible exact gantletlaw09_awake.mono _)
      | (with_reducible exact LeO.refl _)
      | (with_reducible exact LeO.none _)
      | (with_reducible refine LeO.ite ?_ ?_)
      | (with_reducible refine LeO.bind ?_ (fun _ => ?_))
      | exact ih0 _ _ _
      | exact ih1 _ _ _ _ _ _ _ _ _
      | exact ih2 _ _ _ _ _ _ _ _ _ _ _ _ _ _ _ _
      | exact ih3 _ _ _ _ _ _ _ _ _ _ _ _ _ _ _ _ _ _
      | exact ih4 _ _ _ _ _ _ _ _ _ _ _ _ _ _ _ _ _
      | exact gantletlaw09_awake.mono _
      | exact LeO.none _
      | refine LeO.ite ?_ ?_
      | refine LeO.bind ?_ (fun _ => ?_)
    · intro y0 y1 y2 y3 y4 y5 y6 y7 y8
      unfold gantletlaw09_EventNested.l0
      repeat' first
      | (with_reducible exact ih0 _ _ _)
      | (with_reducible exact ih1 _ _ _ _ _ _ _ _ _)
      | (with_reducible exact ih2 _ _ _ _ _ _ _ _ _ _ _ _ _ _ _ _)
      | (with_reducible exact ih3 _ _ _ _ _ _ _ _ _ _ _ _ _ _ _ _ _ _)
      | (with_reducible exact ih4 _ _ _ _ _ _ _ _ _ _ _ _ _ _ _ _ _)
      | (with_reducible exact gantletlaw09_awake.mono _)
      | (with_reducible exact LeO.refl _)
      | (with_reducible exact LeO.none _)
      | (with_reducible refine LeO.ite ?_ ?_)
      | (with_reducible refine LeO.bind ?_ (fun _ => ?_))
      | exact ih0 _ _ _
      | exact ih1 _ _ _ _ _ _ _ _ _
      | exact ih2 _ _ _ _ _ _ _ _ _ _ _ _ _ _ _ _
      | exact ih3 _ _ _ _ _ _ _ _ _ _ _ _ _ _ _ _ _ _
      | exact ih4 _ _ _ _ _ _ _ _ _ _ _ _ _ _ _ _ _
      | exact gantletlaw09_awake.mono _
      | exact LeO.none _
      | refine LeO.ite ?_ ?_
      | refine LeO.bind ?_ (fun _ => ?_)
    · intro y0 y1 y2 y3 y4 y5 y6 y7 y8 y9 y10 y11 y12 y13 y14 y15
      unfold gantletlaw09_EventNested.j2
      repeat' first
      | (with_reducible exact ih0 _ _ _)
      | (with_reducible exact ih1 _ _ _ _ _ _ _ _ _)
      | (with_reducible exact ih2 _ _ _ _ _ _ _ _ _ _ _ _ _ _ _ _)
      | (with_reducible exact ih3 _ _ _ _ _ _ _ _ _ _ _ _ _ _ _ _ _ _)
      | (with_reducible exact ih4 _ _ _ _ _ _ _ _ _ _ _ _ _ _ _ _ _)
      | (with_reducible exact gantletlaw09_awake.mono _)
      | (with_reducible exact LeO.refl _)
      | (with_reducible exact LeO.none _)
      | (with_reducible refine LeO.ite ?_ ?_)
      | (with_reducible refine LeO.bind ?_ (fun _ => ?_))
      | exact ih0 _ _ _
      | exact ih1 _ _ _ _ _ _ _ _ _
      | exact ih2 _ _ _ _ _ _ _ _ _ _ _ _ _ _ _ _
      | exact ih3 _ _ _ _ _ _ _ _ _ _ _ _ _ _ _ _ _ _
      | exact ih4 _ _ _ _ _ _ _ _ _ _ _ _ _ _ _ _ _
      | exact gantletlaw09_awake.mono _
      | exact LeO.none _
      | refine LeO.ite ?_ ?_
      | refine LeO.bind ?_ (fun _ => ?_)
    · intro y0 y1 y2 y3 y4 y5 y6 y7 y8 y9 y10 y11 y12 y13 y14 y15 y16 y17
      unfold gantletlaw09_EventNested.j3
      repeat' first
      | (with_reducible exact ih0 _ _ _)
      | (with_reducible exact ih1 _ _ _ _ _ _ _ _ _)
      | (with_reducible exact ih2 _ _ _ _ _ _ _ _ _ _ _ _ _ _ _ _)
      | (with_reducible exact ih3 _ _ _ _ _ _ _ _ _ _ _ _ _ _ _ _ _ _)
      | (with_reducible exact ih4 _ _ _ _ _ _ _ _ _ _ _ _ _ _ _ _ _)
      | (with_reducible exact gantletlaw09_awake.mono _)
      | (with_reducible exact LeO.refl _)
      | (with_reducible exact LeO.none _)
      | (with_reducible refine LeO.ite ?_ ?_)
      | (with_reducible refine LeO.bind ?_ (fun _ => ?_))
      | exact ih0 _ _ _
      | exact ih1 _ _ _ _ _ _ _ _ _
      | exact ih2 _ _ _ _ _ _ _ _ _ _ _ _ _ _ _ _
      | exact ih3 _ _ _ _ _ _ _ _ _ _ _ _ _ _ _ _ _ _
      | exact ih4 _ _ _ _ _ _ _ _ _ _ _ _ _ _ _ _ _
      | exact gantletlaw09_awake.mono _
      | exact LeO.none _
      | refine LeO.ite ?_ ?_
      | refine LeO.bind ?_ (fun _ => ?_)
    · intro y0 y1 y2 y3 y4 y5 y6 y7 y8 y9 y10 y11 y12 y13 y14 y15 y16
      unfold gantletlaw09_EventNested.j4
      repeat' first
      | (with_reducible exact ih0 _ _ _)
      | (with_reducible exact ih1 _ _ _ _ _ _ _ _ _)
      | (with_reducible exact ih2 _ _ _ _ _ _ _ _ _ _ _ _ _ _ _ _)
      | (with_reducible exact ih3 _ _ _ _ _ _ _ _ _ _ _ _ _ _ _ _ _ _)
      | (with_reducible exact ih4 _ _ _ _ _ _ _ _ _ _ _ _ _ _ _ _ _)
      | (with_reducible exact gantletlaw09_awake.mono _)
      | (with_reducible exact LeO.refl _)
      | (with_reducible exact LeO.none _)
      | (with_reducible refine LeO.ite ?_ ?_)
      | (with_reducible refine LeO.bind ?_ (fun _ => ?_))
      | exact ih0 _ _ _
      | exact ih1 _ _ _ _ _ _ _ _ _
      | exact ih2 _ _ _ _ _ _ _ _ _ _ _ _ _ _ _ _
      | exact ih3 _ _ _ _ _ _ _ _ _ _ _ _ _ _ _ _ _ _
      | exact ih4 _ _ _ _ _ _ _ _ _ _ _ _ _ _ _ _ _
      | exact gantletlaw09_awake.mono _
      | exact LeO.none _
      | refine LeO.ite ?_ ?_
      | refine LeO.bind ?_ (fun _ => ?_)
theorem gantletlaw09_EventNested.mono : ∀ a0 a1 k, LeO (gantletlaw09_EventNested.f k a0 a1) (gantletlaw09_EventNested.f (k + 1) a0 a1) := by
  intro a0 a1 k
  obtain ⟨ih0, ih1, ih2, ih3, ih4⟩ := gantletlaw09_EventNested.mono_l k
  unfold gantletlaw09_EventNested.f
  repeat' first
      | (with_reducible exact ih0 _ _ _)
      | (with_reducible exact ih1 _ _ _ _ _ _ _ _ _)
      | (with_reducible exact ih2 _ _ _ _ _ _ _ _ _ _ _ _ _ _ _ _)
      | (with_reducible exact ih3 _ _ _ _ _ _ _ _ _ _ _ _ _ _ _ _ _ _)
      | (with_reducible exact ih4 _ _ _ _ _ _ _ _ _ _ _ _ _ _ _ _ _)
      | (with_reducible exact gantletlaw09_awake.mono _)
      | (with_reducible exact LeO.refl _)
      | (with_reducible exact LeO.none _)
      | (with_reducible refine LeO.ite ?_ ?_)
      | (with_reducible refine LeO.bind ?_ (fun _ => ?_))
      | exact ih0 _ _ _
      | exact ih1 _ _ _ _ _ _ _ _ _
      | exact ih2 _ _ _ _ _ _ _ _ _ _ _ _ _ _ _ _
      | exact ih3 _ _ _ _ _ _ _ _ _ _ _ _ _ _ _ _ _ _
      | exact ih4 _ _ _ _ _ _ _ _ _ _ _ _ _ _ _ _ _
      | exact gantletlaw09_awake.mono _
      | exact LeO.none _
      | refine LeO.ite ?_ ?_
      | refine LeO.bind ?_ (fun _ => ?_)
set_option maxHeartbeats 8000000 in
set_option maxRecDepth 100000 in
theorem gantletlaw09_EventNested.calls (k : Nat) (a0 : ByteArray) (a1 : Int) (r : Bool) (w : World) (h : gantletlaw09_EventNested.f k a0 a1 = some r) :
    Calls Try.prog 5 #[.string a0, .int .i64 a1] w fun e w' => e = .returned (.bool r) ∧ Below w.heap.size w w' := by
  have hu36 := Try.underlying36
  have HB := Aside0.mk (Below.refl w.heap.size w)
  have H : ((gantletlaw09_awake.f k).bind fun t145 => (if t145 = true then ((gantletlaw09_great.f a0).bind fun t146 => (gantletlaw09_EventNested.j0 k a0 a1 t146)) else (gantletlaw09_EventNested.j0 k a0 a1 true))) = some r := h
  clear h
  have HC3 := Aside0.mk H
  clear H
  go_enter Try.func5, Try.ntmps5
  go_upto_region 1 with (fail)
  repeat (go_quiet (fail); go_upto_region 1 with (fail))
  go_cut [18] (fun v18 wc => ∃ (kq : Nat) (x18_2 : Bool), v18 = .bool x18_2 ∧ Aside0 (gantletlaw09_EventNested.j0 kq a0 a1 x18_2 = some r) ∧ Aside0 (kq ≤ k) ∧ Aside0 (Below w.heap.size w wc))
  case first =>
    have H := HC3.out
    clear HC3
    replace H := Option.bind_eq_some_iff.mp H
    obtain ⟨t145, A40, H⟩ := H
    replace H : (if t145 = true then ((gantletlaw09_great.f a0).bind fun t146 => (gantletlaw09_EventNested.j0 k a0 a1 t146)) else (gantletlaw09_EventNested.j0 k a0 a1 true)) = some r := H
    have A4 := Aside0.mk A40
    clear A40
    by_cases c5 : t145 = true
    · subst c5
      have H1 : ((gantletlaw09_great.f a0).bind fun t146 => (gantletlaw09_EventNested.j0 k a0 a1 t146)) = some r := by rw [if_pos rfl] at H; exact H
      clear H
      have H := H1
      clear H1
      replace H := Option.bind_eq_some_iff.mp H
      obtain ⟨t146, A60, H⟩ := H
      replace H : (gantletlaw09_EventNested.j0 k a0 a1 t146) = some r := H
      have A6 := Aside0.mk A60
      clear A60
      have H' := Aside0.mk H
      clear H
      go_wp2_with (first | (go_at_call 11; (with_reducible refine (gantletlaw09_awake.calls k  true _ A4.out).mono ?_); rintro e w7 ⟨rfl, hb⟩; have n0_ := Aside0.mk (below_step (by repeat (first | (with_reducible first | exact HB.out | apply below_alloc | apply pw_below_drewN | apply below_drew1) | exact HB.out)) hb); clear HB; have HB := n0_; clear n0_; (try clear hb); (try clear hb2); (try clear hk); (try clear hi)) | (go_at_call 12; (with_reducible refine (gantletlaw09_great.calls a0 t146 _ A6.out).mono ?_); rintro e w' ⟨rfl, ⟨nd, rfl⟩⟩; (try first | exact ⟨rfl, _, World.drewN_drewN _ _ _⟩ | exact ⟨rfl, _, Eq.trans (World.drewN_drewN _ _ _) (congrArg (World.drewN _) (Nat.add_assoc _ _ _))⟩)))
      repeat (go_quiet (first | (go_at_call 11; (with_reducible refine (gantletlaw09_awake.calls k  true _ A4.out).mono ?_); rintro e w7 ⟨rfl, hb⟩; have n0_ := Aside0.mk (below_step (by repeat (first | (with_reducible first | exact HB.out | apply below_alloc | apply pw_below_drewN | apply below_drew1) | exact HB.out)) hb); clear HB; have HB := n0_; clear n0_; (try clear hb); (try clear hb2); (try clear hk); (try clear hi)) | (go_at_call 12; (with_reducible refine (gantletlaw09_great.calls a0 t146 _ A6.out).mono ?_); rintro e w' ⟨rfl, ⟨nd, rfl⟩⟩; (try first | exact ⟨rfl, _, World.drewN_drewN _ _ _⟩ | exact ⟨rfl, _, Eq.trans (World.drewN_drewN _ _ _) (congrArg (World.drewN _) (Nat.add_assoc _ _ _))⟩))); try go_wp2_with (first | (go_at_call 11; (with_reducible refine (gantletlaw09_awake.calls k  true _ A4.out).mono ?_); rintro e w7 ⟨rfl, hb⟩; have n0_ := Aside0.mk (below_step (by repeat (first | (with_reducible first | exact HB.out | apply below_alloc | apply pw_below_drewN | apply below_drew1) | exact HB.out)) hb); clear HB; have HB := n0_; clear n0_; (try clear hb); (try clear hb2); (try clear hk); (try clear hi)) | (go_at_call 12; (with_reducible refine (gantletlaw09_great.calls a0 t146 _ A6.out).mono ?_); rintro e w' ⟨rfl, ⟨nd, rfl⟩⟩; (try first | exact ⟨rfl, _, World.drewN_drewN _ _ _⟩ | exact ⟨rfl, _, Eq.trans (World.drewN_drewN _ _ _) (congrArg (World.drewN _) (Nat.add_assoc _ _ _))⟩))))
      go_meet
      case rel => exact ⟨_, (t146), (by first | rfl | (simp; done) | (simp [*]; done) | (simp [show ∀ l : List UInt8, (!l.isEmpty) = (l != []) from fun l => by cases l <;> rfl]; done)), H', ⟨by first | omega | exact Nat.le_refl _⟩, ⟨by repeat (first | (with_reducible first | exact HB.out | apply below_alloc | apply pw_below_drewN | apply below_drew1) | exact HB.out)⟩⟩
    · replace c5 := Bool.eq_false_iff.mpr c5
      subst c5
      have H1 : (gantletlaw09_EventNested.j0 k a0 a1 true) = some r := by rw [if_neg (show ¬ (false = true) by decide)] at H; exact H
      clear H
      have H := H1
      clear H1
      have H' := Aside0.mk H
      clear H
      go_wp2_with (first | (go_at_call 11; (with_reducible refine (gantletlaw09_awake.calls k  false _ A4.out).mono ?_); rintro e w8 ⟨rfl, hb⟩; have n0_ := Aside0.mk (below_step (by repeat (first | (with_reducible first | exact HB.out | apply below_alloc | apply pw_below_drewN | apply below_drew1) | exact HB.out)) hb); clear HB; have HB := n0_; clear n0_; (try clear hb); (try clear hb2); (try clear hk); (try clear hi)))
      repeat (go_quiet (first | (go_at_call 11; (with_reducible refine (gantletlaw09_awake.calls k  false _ A4.out).mono ?_); rintro e w8 ⟨rfl, hb⟩; have n0_ := Aside0.mk (below_step (by repeat (first | (with_reducible first | exact HB.out | apply below_alloc | apply pw_below_drewN | apply below_drew1) | exact HB.out)) hb); clear HB; have HB := n0_; clear n0_; (try clear hb); (try clear hb2); (try clear hk); (try clear hi))); try go_wp2_with (first | (go_at_call 11; (with_reducible refine (gantletlaw09_awake.calls k  false _ A4.out).mono ?_); rintro e w8 ⟨rfl, hb⟩; have n0_ := Aside0.mk (below_step (by repeat (first | (with_reducible first | exact HB.out | apply below_alloc | apply pw_below_drewN | apply below_drew1) | exact HB.out)) hb); clear HB; have HB := n0_; clear n0_; (try clear hb); (try clear hb2); (try clear hk); (try clear hi))))
      go_meet
      case rel => exact ⟨_, (true), (by first | rfl | (simp; done) | (simp [*]; done) | (simp [show ∀ l : List UInt8, (!l.isEmpty) = (l != []) from fun l => by cases l <;> rfl]; done)), H', ⟨by first | omega | exact Nat.le_refl _⟩, ⟨by repeat (first | (with_reducible first | exact HB.out | apply below_alloc | apply pw_below_drewN | apply below_drew1) | exact HB.out)⟩⟩
  case rest =>
    clear HC3
    try clear p2
    try clear c5
    obtain ⟨kq, x18_2, rfl, HA, HJ2, HB⟩ := hcut
    cases kq with
    | zero => exact absurd HA.out (by simp [gantletlaw09_EventNested.j0])
    | succ kj2 =>
      have H := HA.out
      clear HA
      simp only [gantletlaw09_EventNested.j0] at H
      by_cases c9 : x18_2 = true
      · subst c9
        have H1 : ((gantletlaw09_awake.f kj2).bind fun t147 => (some t147)) = some r := by rw [if_pos rfl] at H; exact H
        clear H
        have H := H1
        clear H1
        replace H := Option.bind_eq_some_iff.mp H
        obtain ⟨t147, A100, H⟩ := H
        replace H : (some t147) = some r := H
        have A10 := Aside0.mk A100
        clear A100
        obtain rfl := Option.some.inj H
        go_wp2_with (first | (go_at_call 11; (with_reducible refine (gantletlaw09_awake.calls kj2  t147 _ A10.out).mono ?_); rintro e w11 ⟨rfl, hb⟩; have n0_ := Aside0.mk (below_step (by repeat (first | (with_reducible first | exact HB.out | apply below_alloc | apply pw_below_drewN | apply below_drew1) | exact HB.out)) hb); clear HB; have HB := n0_; clear n0_; (try clear hb); (try clear hb2); (try clear hk); (try clear hi)))
        repeat (go_quiet (first | (go_at_call 11; (with_reducible refine (gantletlaw09_awake.calls kj2  t147 _ A10.out).mono ?_); rintro e w11 ⟨rfl, hb⟩; have n0_ := Aside0.mk (below_step (by repeat (first | (with_reducible first | exact HB.out | apply below_alloc | apply pw_below_drewN | apply below_drew1) | exact HB.out)) hb); clear HB; have HB := n0_; clear n0_; (try clear hb); (try clear hb2); (try clear hk); (try clear hi))); try go_wp2_with (first | (go_at_call 11; (with_reducible refine (gantletlaw09_awake.calls kj2  t147 _ A10.out).mono ?_); rintro e w11 ⟨rfl, hb⟩; have n0_ := Aside0.mk (below_step (by repeat (first | (with_reducible first | exact HB.out | apply below_alloc | apply pw_below_drewN | apply below_drew1) | exact HB.out)) hb); clear HB; have HB := n0_; clear n0_; (try clear hb); (try clear hb2); (try clear hk); (try clear hi))))
        go_ret
        exact ⟨by first | rfl | (simp [errW_none, errW_some] <;> rfl) | (simp [*, errW_none, errW_some] <;> rfl), by repeat (first | (with_reducible first | exact HB.out | apply below_alloc | apply pw_below_drewN | apply below_drew1) | exact HB.out)⟩
      · replace c9 := Bool.eq_false_iff.mpr c9
        subst c9
        have H1 : ((event_Whole.f a0 a1).bind fun bt148 => (gantletlaw09_EventNested.l0 kj2 a0 a1 bt148.2.1 0 false 0 bt148.1 (bt148.1.length : Int) 0)) = some r := by rw [if_neg (show ¬ (false = true) by decide)] at H; exact H
        clear H
        have H := H1
        clear H1
        replace H := Option.bind_eq_some_iff.mp H
        obtain ⟨⟨t148, t149, t150⟩, A120, H⟩ := H
        replace H : (gantletlaw09_EventNested.l0 kj2 a0 a1 t149 0 false 0 t148 (t148.length : Int) 0) = some r := H
        have A12 := Aside0.mk A120
        clear A120
        have H' := Aside0.mk H
        clear H
        go_wp2_with (first | (go_at_call 13; (with_reducible refine (event_Whole.calls a0 a1 t148 t149 t150 _ A12.out).mono ?_); rintro e w13 ⟨v151, rfl, ho0, hb⟩; have n0_ := Aside0.mk (Kd.R_lower ho0 (below_size (by repeat (first | (with_reducible first | exact HB.out | apply below_alloc | apply pw_below_drewN | apply below_drew1) | exact HB.out)))); have n1_ := Aside0.mk (below_step (by repeat (first | (with_reducible first | exact HB.out | apply below_alloc | apply pw_below_drewN | apply below_drew1) | exact HB.out)) hb); clear HB; have HO152 := n0_; have HB := n1_; clear n0_ n1_; (try clear hb); (try clear hb2); (try clear hk); (try clear hi); (try clear ho0); obtain ⟨Ao14, co14, eo14⟩ := Kd.R_slice HO152.out; subst eo14))
        repeat (go_quiet (first | (go_at_call 13; (with_reducible refine (event_Whole.calls a0 a1 t148 t149 t150 _ A12.out).mono ?_); rintro e w13 ⟨v151, rfl, ho0, hb⟩; have n0_ := Aside0.mk (Kd.R_lower ho0 (below_size (by repeat (first | (with_reducible first | exact HB.out | apply below_alloc | apply pw_below_drewN | apply below_drew1) | exact HB.out)))); have n1_ := Aside0.mk (below_step (by repeat (first | (with_reducible first | exact HB.out | apply below_alloc | apply pw_below_drewN | apply below_drew1) | exact HB.out)) hb); clear HB; have HO152 := n0_; have HB := n1_; clear n0_ n1_; (try clear hb); (try clear hb2); (try clear hk); (try clear hi); (try clear ho0); obtain ⟨Ao14, co14, eo14⟩ := Kd.R_slice HO152.out; subst eo14)); try go_wp2_with (first | (go_at_call 13; (with_reducible refine (event_Whole.calls a0 a1 t148 t149 t150 _ A12.out).mono ?_); rintro e w13 ⟨v151, rfl, ho0, hb⟩; have n0_ := Aside0.mk (Kd.R_lower ho0 (below_size (by repeat (first | (with_reducible first | exact HB.out | apply below_alloc | apply pw_below_drewN | apply below_drew1) | exact HB.out)))); have n1_ := Aside0.mk (below_step (by repeat (first | (with_reducible first | exact HB.out | apply below_alloc | apply pw_below_drewN | apply below_drew1) | exact HB.out)) hb); clear HB; have HO152 := n0_; have HB := n1_; clear n0_ n1_; (try clear hb); (try clear hb2); (try clear hk); (try clear hi); (try clear ho0); obtain ⟨Ao14, co14, eo14⟩ := Kd.R_slice HO152.out; subst eo14)))
        go_loopg [8, 9, 10, 29] kj2 (fun kq v8 v9 v10 v29 w' => ∃ (x8_2 : Int) (x9_2 : Bool) (x10_2 : Int) (x29_2 : Int), v8 = .int .i64 x8_2 ∧ v9 = .bool x9_2 ∧ v10 = .int .i64 x10_2 ∧ v29 = .int .i64 x29_2 ∧ Aside0 (gantletlaw09_EventNested.l0 kq a0 a1 t149 x8_2 x9_2 x10_2 t148 (t148.length : Int) x29_2 = some r) ∧ Aside0 (kq ≤ kj2) ∧ Aside0 (Kd.R k36 36 w' w.heap.size (fun _ => True) (.slice Ao14 t148.length co14) t148) ∧ Aside0 (Below w.heap.size w w'))
        case atStart => exact ⟨(0), (false), (0), (0), (by first | rfl | (simp; done) | (simp [*]; done) | (simp [show ∀ l : List UInt8, (!l.isEmpty) = (l != []) from fun l => by cases l <;> rfl]; done)), (by first | rfl | (simp; done) | (simp [*]; done) | (simp [show ∀ l : List UInt8, (!l.isEmpty) = (l != []) from fun l => by cases l <;> rfl]; done)), (by first | rfl | (simp; done) | (simp [*]; done) | (simp [show ∀ l : List UInt8, (!l.isEmpty) = (l != []) from fun l => by cases l <;> rfl]; done)), (by first | rfl | (simp; done) | (simp [*]; done) | (simp [show ∀ l : List UInt8, (!l.isEmpty) = (l != []) from fun l => by cases l <;> rfl]; done)), H', ⟨Nat.le_refl _⟩, ⟨by (with_reducible repeat (first | apply Kd.R_alloc | apply Kd.R_drewN | apply Kd.R_drew)); exact HO152.out⟩, ⟨by repeat (first | (with_reducible first | exact HB.out | apply below_alloc | apply pw_below_drewN | apply below_drew1) | exact HB.out)⟩⟩
        case round =>
          clear H'
          try clear p2
          try clear c5
          try clear c9
          try clear p2
          obtain ⟨x8_2, x9_2, x10_2, x29_2, rfl, rfl, rfl, rfl, HA, HK2, HO_27, HB⟩ := hrel
          cases gk with
          | zero => exact absurd HA.out (by simp [gantletlaw09_EventNested.l0])
          | succ k2 =>
            have H := HA.out
            clear HA
            simp only [gantletlaw09_EventNested.l0] at H
            by_cases c15 : x29_2 < (t148.length : Int)
            · rw [if_pos c15] at H
              have c15b0 : decide (x29_2 < (t148.length : Int)) = true := decide_eq_true c15
              clear c15
              by_cases c16 : 0 ≤ x29_2
              · rw [if_pos c16] at H
                have c16b0 : decide (0 ≤ x29_2) = true := decide_eq_true c16
                clear c16
                by_cases c17 : x29_2 < (t148.length : Int)
                · rw [if_pos c17] at H
                  have c17b0 : decide (x29_2 < (t148.length : Int)) = true := decide_eq_true c17
                  clear c17
                  have HC18 := Aside0.mk H
                  clear H
                  have p153 : 0 ≤ (x29_2 : Int) := of_decide_eq_true (by first | (with_reducible assumption) | assumption)
                  have q153 : x29_2 < (t148.length : Int) := of_decide_eq_true (by first | (with_reducible assumption) | assumption)
                  obtain ⟨ad153, e153, hx153_0, hx153_1, hx153_2, hx153_3, hx153_4, hx153_5, hx153_6⟩ := at_T36 (Kd.R_reads' HO_27.out).2.2 x29_2 p153 q153
                  cases e153
                  replace p153 := eq_true p153
                  replace q153 := eq_true q153
                  go_upto_region 8 with (first | ((with_reducible refine gate_dst (N := 12) rfl ?_); (try (refine gate_guard (by rfl) ?_; dsimp only)); refine box_event ?hg (N := 12) ?hd (cs := #[.int .i64 0, .int .i64 0, .int .i64 0, .int .i64 0, .bool false, .int .i64 0, .int .u8 0]) (t := 36) ?hr ?_; (case hd => rfl); (case hg => rfl); (case hr => first | (go_simp; done) | (go_simp; rfl)); intro gb154 hg w19 hbox hb; have n0_ := Aside0.mk (Kd.R_below (Kd.R_elderB (by (with_reducible repeat (first | apply Kd.R_alloc | apply Kd.R_drewN | apply Kd.R_drew)); exact HO_27.out) gb154 (Nat.le_of_eq hg.symm)) hb); have n1_ := Aside0.mk (below_step (by repeat (first | (with_reducible first | exact HB.out | apply below_alloc | apply pw_below_drewN | apply below_drew1) | exact HB.out)) hb); have n2_ := Aside0.mk (hbox); have n3_ := Aside0.mk ((by rw [hg]; exact (below_size (by repeat (first | (with_reducible first | exact HB.out | apply below_alloc | apply pw_below_drewN | apply below_drew1) | exact HB.out))) : w.heap.size ≤ gb154)); have n4_ := Aside0.mk ((by rw [hg]; exact (below_size (by repeat (first | (with_reducible first | exact HB.out | apply below_alloc | apply pw_below_drewN | apply below_drew1) | exact HB.out))) : w.heap.size ≤ gb154)); clear HO_27; clear HB; have HO_27 := n0_; have HB := n1_; have BK154 := n2_; have GW154 := n3_; have GE154 := n4_; clear n0_ n1_ n2_ n3_ n4_; clear hb hbox hg; have hcz20_0 : w19.cell? ⟨gb154, 0, none⟩ = some (.int .i64 0) := (blk_cell BK154.out 0).trans rfl; have hcz20_1 : w19.cell? ⟨gb154, 1, none⟩ = some (.int .i64 0) := (blk_cell BK154.out 1).trans rfl; have hcz20_2 : w19.cell? ⟨gb154, 2, none⟩ = some (.int .i64 0) := (blk_cell BK154.out 2).trans rfl; have hcz20_3 : w19.cell? ⟨gb154, 3, none⟩ = some (.int .i64 0) := (blk_cell BK154.out 3).trans rfl; have hcz20_4 : w19.cell? ⟨gb154, 4, none⟩ = some (.bool false) := (blk_cell BK154.out 4).trans rfl; have hcz20_5 : w19.cell? ⟨gb154, 5, none⟩ = some (.int .i64 0) := (blk_cell BK154.out 5).trans rfl; have hcz20_6 : w19.cell? ⟨gb154, 6, none⟩ = some (.int .u8 0) := (blk_cell BK154.out 6).trans rfl; have hfz20_0 := blk_frozen BK154.out 0; have hfz20_1 := blk_frozen BK154.out 1; have hfz20_2 := blk_frozen BK154.out 2; have hfz20_3 := blk_frozen BK154.out 3; have hfz20_4 := blk_frozen BK154.out 4; have hfz20_5 := blk_frozen BK154.out 5; have hfz20_6 := blk_frozen BK154.out 6))
                  repeat (go_quiet (first | ((with_reducible refine gate_dst (N := 12) rfl ?_); (try (refine gate_guard (by rfl) ?_; dsimp only)); refine box_event ?hg (N := 12) ?hd (cs := #[.int .i64 0, .int .i64 0, .int .i64 0, .int .i64 0, .bool false, .int .i64 0, .int .u8 0]) (t := 36) ?hr ?_; (case hd => rfl); (case hg => rfl); (case hr => first | (go_simp; done) | (go_simp; rfl)); intro gb154 hg w19 hbox hb; have n0_ := Aside0.mk (Kd.R_below (Kd.R_elderB (by (with_reducible repeat (first | apply Kd.R_alloc | apply Kd.R_drewN | apply Kd.R_drew)); exact HO_27.out) gb154 (Nat.le_of_eq hg.symm)) hb); have n1_ := Aside0.mk (below_step (by repeat (first | (with_reducible first | exact HB.out | apply below_alloc | apply pw_below_drewN | apply below_drew1) | exact HB.out)) hb); have n2_ := Aside0.mk (hbox); have n3_ := Aside0.mk ((by rw [hg]; exact (below_size (by repeat (first | (with_reducible first | exact HB.out | apply below_alloc | apply pw_below_drewN | apply below_drew1) | exact HB.out))) : w.heap.size ≤ gb154)); have n4_ := Aside0.mk ((by rw [hg]; exact (below_size (by repeat (first | (with_reducible first | exact HB.out | apply below_alloc | apply pw_below_drewN | apply below_drew1) | exact HB.out))) : w.heap.size ≤ gb154)); clear HO_27; clear HB; have HO_27 := n0_; have HB := n1_; have BK154 := n2_; have GW154 := n3_; have GE154 := n4_; clear n0_ n1_ n2_ n3_ n4_; clear hb hbox hg; have hcz20_0 : w19.cell? ⟨gb154, 0, none⟩ = some (.int .i64 0) := (blk_cell BK154.out 0).trans rfl; have hcz20_1 : w19.cell? ⟨gb154, 1, none⟩ = some (.int .i64 0) := (blk_cell BK154.out 1).trans rfl; have hcz20_2 : w19.cell? ⟨gb154, 2, none⟩ = some (.int .i64 0) := (blk_cell BK154.out 2).trans rfl; have hcz20_3 : w19.cell? ⟨gb154, 3, none⟩ = some (.int .i64 0) := (blk_cell BK154.out 3).trans rfl; have hcz20_4 : w19.cell? ⟨gb154, 4, none⟩ = some (.bool false) := (blk_cell BK154.out 4).trans rfl; have hcz20_5 : w19.cell? ⟨gb154, 5, none⟩ = some (.int .i64 0) := (blk_cell BK154.out 5).trans rfl; have hcz20_6 : w19.cell? ⟨gb154, 6, none⟩ = some (.int .u8 0) := (blk_cell BK154.out 6).trans rfl; have hfz20_0 := blk_frozen BK154.out 0; have hfz20_1 := blk_frozen BK154.out 1; have hfz20_2 := blk_frozen BK154.out 2; have hfz20_3 := blk_frozen BK154.out 3; have hfz20_4 := blk_frozen BK154.out 4; have hfz20_5 := blk_frozen BK154.out 5; have hfz20_6 := blk_frozen BK154.out 6)); go_upto_region 8 with (first | ((with_reducible refine gate_dst (N := 12) rfl ?_); (try (refine gate_guard (by rfl) ?_; dsimp only)); refine box_event ?hg (N := 12) ?hd (cs := #[.int .i64 0, .int .i64 0, .int .i64 0, .int .i64 0, .bool false, .int .i64 0, .int .u8 0]) (t := 36) ?hr ?_; (case hd => rfl); (case hg => rfl); (case hr => first | (go_simp; done) | (go_simp; rfl)); intro gb154 hg w19 hbox hb; have n0_ := Aside0.mk (Kd.R_below (Kd.R_elderB (by (with_reducible repeat (first | apply Kd.R_alloc | apply Kd.R_drewN | apply Kd.R_drew)); exact HO_27.out) gb154 (Nat.le_of_eq hg.symm)) hb); have n1_ := Aside0.mk (below_step (by repeat (first | (with_reducible first | exact HB.out | apply below_alloc | apply pw_below_drewN | apply below_drew1) | exact HB.out)) hb); have n2_ := Aside0.mk (hbox); have n3_ := Aside0.mk ((by rw [hg]; exact (below_size (by repeat (first | (with_reducible first | exact HB.out | apply below_alloc | apply pw_below_drewN | apply below_drew1) | exact HB.out))) : w.heap.size ≤ gb154)); have n4_ := Aside0.mk ((by rw [hg]; exact (below_size (by repeat (first | (with_reducible first | exact HB.out | apply below_alloc | apply pw_below_drewN | apply below_drew1) | exact HB.out))) : w.heap.size ≤ gb154)); clear HO_27; clear HB; have HO_27 := n0_; have HB := n1_; have BK154 := n2_; have GW154 := n3_; have GE154 := n4_; clear n0_ n1_ n2_ n3_ n4_; clear hb hbox hg; have hcz20_0 : w19.cell? ⟨gb154, 0, none⟩ = some (.int .i64 0) := (blk_cell BK154.out 0).trans rfl; have hcz20_1 : w19.cell? ⟨gb154, 1, none⟩ = some (.int .i64 0) := (blk_cell BK154.out 1).trans rfl; have hcz20_2 : w19.cell? ⟨gb154, 2, none⟩ = some (.int .i64 0) := (blk_cell BK154.out 2).trans rfl; have hcz20_3 : w19.cell? ⟨gb154, 3, none⟩ = some (.int .i64 0) := (blk_cell BK154.out 3).trans rfl; have hcz20_4 : w19.cell? ⟨gb154, 4, none⟩ = some (.bool false) := (blk_cell BK154.out 4).trans rfl; have hcz20_5 : w19.cell? ⟨gb154, 5, none⟩ = some (.int .i64 0) := (blk_cell BK154.out 5).trans rfl; have hcz20_6 : w19.cell? ⟨gb154, 6, none⟩ = some (.int .u8 0) := (blk_cell BK154.out 6).trans rfl; have hfz20_0 := blk_frozen BK154.out 0; have hfz20_1 := blk_frozen BK154.out 1; have hfz20_2 := blk_frozen BK154.out 2; have hfz20_3 := blk_frozen BK154.out 3; have hfz20_4 := blk_frozen BK154.out 4; have hfz20_5 := blk_frozen BK154.out 5; have hfz20_6 := blk_frozen BK154.out 6)))
                  (try simp only [Act.put, List.setIfInBounds_toArray, List.set_cons_zero, List.set_cons_succ])
                  go_cut [43] (fun v43 wc => ∃ (kq : Nat) (x43_17 : Bool), v43 = .bool x43_17 ∧ Aside0 (gantletlaw09_EventNested.j2 kq a0 a1 t149 x8_2 x9_2 t148 (t148.length : Int) x29_2 x43_17 ((rd_T36 t148 x29_2).f0) ((rd_T36 t148 x29_2).f1) ((rd_T36 t148 x29_2).f2.f0) ((rd_T36 t148 x29_2).f2.f1) ((rd_T36 t148 x29_2).f2.f2) ((rd_T36 t148 x29_2).f2.f3) ((rd_T36 t148 x29_2).f3) = some r) ∧ Aside0 (kq ≤ k2) ∧ Aside0 (Kd.R k36 36 wc w.heap.size (fun k_ => k_ ≠ gb154) (.slice (some ad153) t148.length co14) t148) ∧ Aside0 (wc.heap[gb154]? = some (.cells #[.int .i64 ((rd_T36 t148 x29_2).f0), .int .i64 ((rd_T36 t148 x29_2).f1), .int .i64 ((rd_T36 t148 x29_2).f2.f0), .int .i64 ((rd_T36 t148 x29_2).f2.f1), .bool ((rd_T36 t148 x29_2).f2.f2), .int .i64 ((rd_T36 t148 x29_2).f2.f3), .int .u8 ((rd_T36 t148 x29_2).f3)] 36 (0, 0))) ∧ Aside0 (Below w.heap.size w wc))
                  case first =>
                    have H := HC18.out
                    clear HC18
                    by_cases c21 : ((rd_T36 t148 x29_2).f1) < x10_2
                    · rw [if_pos c21] at H
                      have c21b0 : decide (((rd_T36 t148 x29_2).f1) < x10_2) = true := decide_eq_true c21
                      clear c21
                      (first | rw [c21b0] | (simp only [i64_w, i32_w]; rw [c21b0]) | skip)
                      have H' := Aside0.mk H
                      clear H
                      have hcz22_0 : w19.cell? ⟨gb154, 0, none⟩ = some (.int .i64 0) := (blk_cell BK154.out 0).trans rfl
                      have hcz22_1 : w19.cell? ⟨gb154, 1, none⟩ = some (.int .i64 0) := (blk_cell BK154.out 1).trans rfl
                      have hcz22_2 : w19.cell? ⟨gb154, 2, none⟩ = some (.int .i64 0) := (blk_cell BK154.out 2).trans rfl
                      have hcz22_3 : w19.cell? ⟨gb154, 3, none⟩ = some (.int .i64 0) := (blk_cell BK154.out 3).trans rfl
                      have hcz22_4 : w19.cell? ⟨gb154, 4, none⟩ = some (.bool false) := (blk_cell BK154.out 4).trans rfl
                      have hcz22_5 : w19.cell? ⟨gb154, 5, none⟩ = some (.int .i64 0) := (blk_cell BK154.out 5).trans rfl
                      have hcz22_6 : w19.cell? ⟨gb154, 6, none⟩ = some (.int .u8 0) := (blk_cell BK154.out 6).trans rfl
                      have hfz22_0 := blk_frozen BK154.out 0
                      have hfz22_1 := blk_frozen BK154.out 1
                      have hfz22_2 := blk_frozen BK154.out 2
                      have hfz22_3 := blk_frozen BK154.out 3
                      have hfz22_4 := blk_frozen BK154.out 4
                      have hfz22_5 := blk_frozen BK154.out 5
                      have hfz22_6 := blk_frozen BK154.out 6
                      go_wp2
                      repeat (go_quiet (fail); try go_wp2)
                      go_meet
                      case rel => exact ⟨_, (true), (by first | rfl | (simp; done) | (simp [*]; done) | (simp [show ∀ l : List UInt8, (!l.isEmpty) = (l != []) from fun l => by cases l <;> rfl]; done)), H', ⟨by have := HJ2.out; have := HK2.out; first | omega | exact Nat.le_refl _⟩, ⟨by (with_reducible repeat (first | apply Kd.R_alloc | apply Kd.R_drewN | apply Kd.R_drew)); exact Kd.R_mono (Kd.R_far (p := ⟨gb154, 6, none⟩) (Kd.R_far (p := ⟨gb154, 5, none⟩) (Kd.R_far (p := ⟨gb154, 4, none⟩) (Kd.R_far (p := ⟨gb154, 3, none⟩) (Kd.R_far (p := ⟨gb154, 2, none⟩) (Kd.R_far (p := ⟨gb154, 1, none⟩) (Kd.R_far (p := ⟨gb154, 0, none⟩) (Kd.R_mono HO_27.out (fun k_ hk => (⟨hk, hk.2⟩ : _ ∧ k_ ≠ gb154))) (fun _ hk => hk.2) (.int .i64 ((rd_T36 t148 x29_2).f0))) (fun _ hk => hk.2) (.int .i64 ((rd_T36 t148 x29_2).f1))) (fun _ hk => hk.2) (.int .i64 ((rd_T36 t148 x29_2).f2.f0))) (fun _ hk => hk.2) (.int .i64 ((rd_T36 t148 x29_2).f2.f1))) (fun _ hk => hk.2) (.bool ((rd_T36 t148 x29_2).f2.f2))) (fun _ hk => hk.2) (.int .i64 ((rd_T36 t148 x29_2).f2.f3))) (fun _ hk => hk.2) (.int .u8 ((rd_T36 t148 x29_2).f3))) (fun _ hk => hk.1.2)⟩, ⟨by (with_reducible repeat (first | refine blk_drewN ?_ _ | refine blk_drew ?_ | refine blk_alloc ?_ _)); refine blk_put (cs := #[.int .i64 ((rd_T36 t148 x29_2).f0), .int .i64 ((rd_T36 t148 x29_2).f1), .int .i64 ((rd_T36 t148 x29_2).f2.f0), .int .i64 ((rd_T36 t148 x29_2).f2.f1), .bool ((rd_T36 t148 x29_2).f2.f2), .int .i64 ((rd_T36 t148 x29_2).f2.f3), .int .u8 0]) ?_ 6 _ rfl; (with_reducible repeat (first | refine blk_drewN ?_ _ | refine blk_drew ?_ | refine blk_alloc ?_ _)); refine blk_put (cs := #[.int .i64 ((rd_T36 t148 x29_2).f0), .int .i64 ((rd_T36 t148 x29_2).f1), .int .i64 ((rd_T36 t148 x29_2).f2.f0), .int .i64 ((rd_T36 t148 x29_2).f2.f1), .bool ((rd_T36 t148 x29_2).f2.f2), .int .i64 0, .int .u8 0]) ?_ 5 _ rfl; (with_reducible repeat (first | refine blk_drewN ?_ _ | refine blk_drew ?_ | refine blk_alloc ?_ _)); refine blk_put (cs := #[.int .i64 ((rd_T36 t148 x29_2).f0), .int .i64 ((rd_T36 t148 x29_2).f1), .int .i64 ((rd_T36 t148 x29_2).f2.f0), .int .i64 ((rd_T36 t148 x29_2).f2.f1), .bool false, .int .i64 0, .int .u8 0]) ?_ 4 _ rfl; (with_reducible repeat (first | refine blk_drewN ?_ _ | refine blk_drew ?_ | refine blk_alloc ?_ _)); refine blk_put (cs := #[.int .i64 ((rd_T36 t148 x29_2).f0), .int .i64 ((rd_T36 t148 x29_2).f1), .int .i64 ((rd_T36 t148 x29_2).f2.f0), .int .i64 0, .bool false, .int .i64 0, .int .u8 0]) ?_ 3 _ rfl; (with_reducible repeat (first | refine blk_drewN ?_ _ | refine blk_drew ?_ | refine blk_alloc ?_ _)); refine blk_put (cs := #[.int .i64 ((rd_T36 t148 x29_2).f0), .int .i64 ((rd_T36 t148 x29_2).f1), .int .i64 0, .int .i64 0, .bool false, .int .i64 0, .int .u8 0]) ?_ 2 _ rfl; (with_reducible repeat (first | refine blk_drewN ?_ _ | refine blk_drew ?_ | refine blk_alloc ?_ _)); refine blk_put (cs := #[.int .i64 ((rd_T36 t148 x29_2).f0), .int .i64 0, .int .i64 0, .int .i64 0, .bool false, .int .i64 0, .int .u8 0]) ?_ 1 _ rfl; (with_reducible repeat (first | refine blk_drewN ?_ _ | refine blk_drew ?_ | refine blk_alloc ?_ _)); refine blk_put (cs := #[.int .i64 0, .int .i64 0, .int .i64 0, .int .i64 0, .bool false, .int .i64 0, .int .u8 0]) ?_ 0 _ rfl; (with_reducible repeat (first | refine blk_drewN ?_ _ | refine blk_drew ?_ | refine blk_alloc ?_ _)); exact BK154.out⟩, ⟨by repeat (first | (with_reducible first | exact HB.out | apply below_alloc | apply pw_below_drewN | apply below_drew1 | refine below_set ?_ GE154.out) | exact HB.out)⟩⟩
                    · rw [if_neg c21] at H
                      have c21b0 : decide (((rd_T36 t148 x29_2).f1) < x10_2) = false := decide_eq_false c21
                      clear c21
                      (first | rw [c21b0] | (simp only [i64_w, i32_w]; rw [c21b0]) | skip)
                      have H' := Aside0.mk H
                      clear H
                      have hcz23_0 : w19.cell? ⟨gb154, 0, none⟩ = some (.int .i64 0) := (blk_cell BK154.out 0).trans rfl
                      have hcz23_1 : w19.cell? ⟨gb154, 1, none⟩ = some (.int .i64 0) := (blk_cell BK154.out 1).trans rfl
                      have hcz23_2 : w19.cell? ⟨gb154, 2, none⟩ = some (.int .i64 0) := (blk_cell BK154.out 2).trans rfl
                      have hcz23_3 : w19.cell? ⟨gb154, 3, none⟩ = some (.int .i64 0) := (blk_cell BK154.out 3).trans rfl
                      have hcz23_4 : w19.cell? ⟨gb154, 4, none⟩ = some (.bool false) := (blk_cell BK154.out 4).trans rfl
                      have hcz23_5 : w19.cell? ⟨gb154, 5, none⟩ = some (.int .i64 0) := (blk_cell BK154.out 5).trans rfl
                      have hcz23_6 : w19.cell? ⟨gb154, 6, none⟩ = some (.int .u8 0) := (blk_cell BK154.out 6).trans rfl
                      have hfz23_0 := blk_frozen BK154.out 0
                      have hfz23_1 := blk_frozen BK154.out 1
                      have hfz23_2 := blk_frozen BK154.out 2
                      have hfz23_3 := blk_frozen BK154.out 3
                      have hfz23_4 := blk_frozen BK154.out 4
                      have hfz23_5 := blk_frozen BK154.out 5
                      have hfz23_6 := blk_frozen BK154.out 6
                      go_wp2
                      repeat (go_quiet (fail); try go_wp2)
                      go_meet
                      case rel => exact ⟨_, (decide (((rd_T36 t148 x29_2).f1) ≥ (a0.size : Int))), (by first | rfl | (simp; done) | (simp [*]; done) | (simp [show ∀ l : List UInt8, (!l.isEmpty) = (l != []) from fun l => by cases l <;> rfl]; done)), H', ⟨by have := HJ2.out; have := HK2.out; first | omega | exact Nat.le_refl _⟩, ⟨by (with_reducible repeat (first | apply Kd.R_alloc | apply Kd.R_drewN | apply Kd.R_drew)); exact Kd.R_mono (Kd.R_far (p := ⟨gb154, 6, none⟩) (Kd.R_far (p := ⟨gb154, 5, none⟩) (Kd.R_far (p := ⟨gb154, 4, none⟩) (Kd.R_far (p := ⟨gb154, 3, none⟩) (Kd.R_far (p := ⟨gb154, 2, none⟩) (Kd.R_far (p := ⟨gb154, 1, none⟩) (Kd.R_far (p := ⟨gb154, 0, none⟩) (Kd.R_mono HO_27.out (fun k_ hk => (⟨hk, hk.2⟩ : _ ∧ k_ ≠ gb154))) (fun _ hk => hk.2) (.int .i64 ((rd_T36 t148 x29_2).f0))) (fun _ hk => hk.2) (.int .i64 ((rd_T36 t148 x29_2).f1))) (fun _ hk => hk.2) (.int .i64 ((rd_T36 t148 x29_2).f2.f0))) (fun _ hk => hk.2) (.int .i64 ((rd_T36 t148 x29_2).f2.f1))) (fun _ hk => hk.2) (.bool ((rd_T36 t148 x29_2).f2.f2))) (fun _ hk => hk.2) (.int .i64 ((rd_T36 t148 x29_2).f2.f3))) (fun _ hk => hk.2) (.int .u8 ((rd_T36 t148 x29_2).f3))) (fun _ hk => hk.1.2)⟩, ⟨by (with_reducible repeat (first | refine blk_drewN ?_ _ | refine blk_drew ?_ | refine blk_alloc ?_ _)); refine blk_put (cs := #[.int .i64 ((rd_T36 t148 x29_2).f0), .int .i64 ((rd_T36 t148 x29_2).f1), .int .i64 ((rd_T36 t148 x29_2).f2.f0), .int .i64 ((rd_T36 t148 x29_2).f2.f1), .bool ((rd_T36 t148 x29_2).f2.f2), .int .i64 ((rd_T36 t148 x29_2).f2.f3), .int .u8 0]) ?_ 6 _ rfl; (with_reducible repeat (first | refine blk_drewN ?_ _ | refine blk_drew ?_ | refine blk_alloc ?_ _)); refine blk_put (cs := #[.int .i64 ((rd_T36 t148 x29_2).f0), .int .i64 ((rd_T36 t148 x29_2).f1), .int .i64 ((rd_T36 t148 x29_2).f2.f0), .int .i64 ((rd_T36 t148 x29_2).f2.f1), .bool ((rd_T36 t148 x29_2).f2.f2), .int .i64 0, .int .u8 0]) ?_ 5 _ rfl; (with_reducible repeat (first | refine blk_drewN ?_ _ | refine blk_drew ?_ | refine blk_alloc ?_ _)); refine blk_put (cs := #[.int .i64 ((rd_T36 t148 x29_2).f0), .int .i64 ((rd_T36 t148 x29_2).f1), .int .i64 ((rd_T36 t148 x29_2).f2.f0), .int .i64 ((rd_T36 t148 x29_2).f2.f1), .bool false, .int .i64 0, .int .u8 0]) ?_ 4 _ rfl; (with_reducible repeat (first | refine blk_drewN ?_ _ | refine blk_drew ?_ | refine blk_alloc ?_ _)); refine blk_put (cs := #[.int .i64 ((rd_T36 t148 x29_2).f0), .int .i64 ((rd_T36 t148 x29_2).f1), .int .i64 ((rd_T36 t148 x29_2).f2.f0), .int .i64 0, .bool false, .int .i64 0, .int .u8 0]) ?_ 3 _ rfl; (with_reducible repeat (first | refine blk_drewN ?_ _ | refine blk_drew ?_ | refine blk_alloc ?_ _)); refine blk_put (cs := #[.int .i64 ((rd_T36 t148 x29_2).f0), .int .i64 ((rd_T36 t148 x29_2).f1), .int .i64 0, .int .i64 0, .bool false, .int .i64 0, .int .u8 0]) ?_ 2 _ rfl; (with_reducible repeat (first | refine blk_drewN ?_ _ | refine blk_drew ?_ | refine blk_alloc ?_ _)); refine blk_put (cs := #[.int .i64 ((rd_T36 t148 x29_2).f0), .int .i64 0, .int .i64 0, .int .i64 0, .bool false, .int .i64 0, .int .u8 0]) ?_ 1 _ rfl; (with_reducible repeat (first | refine blk_drewN ?_ _ | refine blk_drew ?_ | refine blk_alloc ?_ _)); refine blk_put (cs := #[.int .i64 0, .int .i64 0, .int .i64 0, .int .i64 0, .bool false, .int .i64 0, .int .u8 0]) ?_ 0 _ rfl; (with_reducible repeat (first | refine blk_drewN ?_ _ | refine blk_drew ?_ | refine blk_alloc ?_ _)); exact BK154.out⟩, ⟨by repeat (first | (with_reducible first | exact HB.out | apply below_alloc | apply pw_below_drewN | apply below_drew1 | refine below_set ?_ GE154.out) | exact HB.out)⟩⟩
                  case rest =>
                    clear HC18
                    try clear c1
                    try clear p1
                    try clear q1
                    try clear hx1
                    try clear c2
                    try clear p2
                    try clear c5
                    try clear c9
                    try clear c15
                    try clear c15b0
                    try clear p15
                    try clear q15
                    try clear hx15
                    try clear c16
                    try clear c16b0
                    try clear c17
                    try clear c17b0
                    try clear c21
                    try clear c21b0
                    try clear hcz20_0
                    try clear hcz20_1
                    try clear hcz20_2
                    try clear hcz20_3
                    try clear hcz20_4
                    try clear hcz20_5
                    try clear hcz20_6
                    try clear hcz22_0
                    try clear hcz22_1
                    try clear hcz22_2
                    try clear hcz22_3
                    try clear hcz22_4
                    try clear hcz22_5
                    try clear hcz22_6
                    try clear hcz23_0
                    try clear hcz23_1
                    try clear hcz23_2
                    try clear hcz23_3
                    try clear hcz23_4
                    try clear hcz23_5
                    try clear hcz23_6
                    try clear hfz20_0
                    try clear hfz20_1
                    try clear hfz20_2
                    try clear hfz20_3
                    try clear hfz20_4
                    try clear hfz20_5
                    try clear hfz20_6
                    try clear hfz22_0
                    try clear hfz22_1
                    try clear hfz22_2
                    try clear hfz22_3
                    try clear hfz22_4
                    try clear hfz22_5
                    try clear hfz22_6
                    try clear hfz23_0
                    try clear hfz23_1
                    try clear hfz23_2
                    try clear hfz23_3
                    try clear hfz23_4
                    try clear hfz23_5
                    try clear hfz23_6
                    try clear hx153_0
                    try clear hx153_1
                    try clear hx153_2
                    try clear hx153_3
                    try clear hx153_4
                    try clear hx153_5
                    try clear hx153_6
                    try clear p153
                    try clear p2
                    try clear q153
                    obtain ⟨kq, x43_17, rfl, HA, HJ17, HO_27, BK154, HB⟩ := hcut
                    cases kq with
                    | zero => exact absurd HA.out (by simp [gantletlaw09_EventNested.j2])
                    | succ kj17 =>
                      have H := HA.out
                      clear HA
                      simp only [gantletlaw09_EventNested.j2] at H
                      by_cases c24 : x43_17 = true
                      · subst c24
                        have H1 : (none) = some r := by rw [if_pos rfl] at H; exact H
                        clear H
                        have H := H1
                        clear H1
                        exact absurd H (by simp)
                      · replace c24 := Bool.eq_false_iff.mpr c24
                        subst c24
                        have H1 : (if ((rd_T36 t148 x29_2).f0) = 1 then (if (wrap64 (x8_2 + 1)) < 0 then (none) else (if (wrap64 (x8_2 + 1)) > (mx a1 0) then (none) else (if ((rd_T36 t148 x29_2).f0) = 2 then (if (x9_2 != true) = true then (none) else (gantletlaw09_EventNested.l0 kj17 a0 a1 t149 (wrap64 (x8_2 + 1)) x9_2 ((rd_T36 t148 x29_2).f1) t148 (t148.length : Int) (wrap64 (x29_2 + 1)))) else (if (x9_2 != (((rd_T36 t148 x29_2).f0) == 3)) = true then (none) else (gantletlaw09_EventNested.l0 kj17 a0 a1 t149 (wrap64 (x8_2 + 1)) x9_2 ((rd_T36 t148 x29_2).f1) t148 (t148.length : Int) (wrap64 (x29_2 + 1))))))) else (if ((rd_T36 t148 x29_2).f0) = 5 then (if (wrap64 (x8_2 - 1)) < 0 then (none) else (if (wrap64 (x8_2 - 1)) > (mx a1 0) then (none) else (if ((rd_T36 t148 x29_2).f0) = 2 then (if (x9_2 != true) = true then (none) else (gantletlaw09_EventNested.l0 kj17 a0 a1 t149 (wrap64 (x8_2 - 1)) x9_2 ((rd_T36 t148 x29_2).f1) t148 (t148.length : Int) (wrap64 (x29_2 + 1)))) else (if (x9_2 != (((rd_T36 t148 x29_2).f0) == 3)) = true then (none) else (gantletlaw09_EventNested.l0 kj17 a0 a1 t149 (wrap64 (x8_2 - 1)) x9_2 ((rd_T36 t148 x29_2).f1) t148 (t148.length : Int) (wrap64 (x29_2 + 1))))))) else (if ((rd_T36 t148 x29_2).f0) = 2 then (gantletlaw09_EventNested.j3 kj17 a0 a1 t149 x8_2 x9_2 ((rd_T36 t148 x29_2).f1) t148 (t148.length : Int) x29_2 ((rd_T36 t148 x29_2).f0) (((rd_T36 t148 x29_2).f0) == 2) ((rd_T36 t148 x29_2).f0) ((rd_T36 t148 x29_2).f1) ((rd_T36 t148 x29_2).f2.f0) ((rd_T36 t148 x29_2).f2.f1) ((rd_T36 t148 x29_2).f2.f2) ((rd_T36 t148 x29_2).f2.f3) ((rd_T36 t148 x29_2).f3)) else (gantletlaw09_EventNested.j3 kj17 a0 a1 t149 x8_2 x9_2 ((rd_T36 t148 x29_2).f1) t148 (t148.length : Int) x29_2 ((rd_T36 t148 x29_2).f0) (((rd_T36 t148 x29_2).f0) == 4) ((rd_T36 t148 x29_2).f0) ((rd_T36 t148 x29_2).f1) ((rd_T36 t148 x29_2).f2.f0) ((rd_T36 t148 x29_2).f2.f1) ((rd_T36 t148 x29_2).f2.f2) ((rd_T36 t148 x29_2).f2.f3) ((rd_T36 t148 x29_2).f3))))) = some r := by rw [if_neg (show ¬ (false = true) by decide)] at H; exact H
                        clear H
                        have H := H1
                        clear H1
                        by_cases c25 : ((rd_T36 t148 x29_2).f0) = 1
                        · rw [if_pos c25] at H
                          have c25b0 : (((rd_T36 t148 x29_2).f0) == 1) = true := beq_iff_eq.mpr c25
                          have c25b1 : (((rd_T36 t148 x29_2).f0) != 1) = false := bne_eq_false_iff_eq.mpr c25
                          clear c25
                          by_cases c26 : (wrap64 (x8_2 + 1)) < 0
                          · rw [if_pos c26] at H
                            exact absurd H (by simp)
                          · rw [if_neg c26] at H
                            have c26b0 : decide ((wrap64 (x8_2 + 1)) < 0) = false := decide_eq_false c26
                            clear c26
                            obtain ⟨ji27, hji27⟩ : ∃ j_ : Int, (mx a1 0) = j_ := ⟨_, rfl⟩
                            replace H : (if (wrap64 (x8_2 + 1)) > (ji27) then (none) else (if ((rd_T36 t148 x29_2).f0) = 2 then (if (x9_2 != true) = true then (none) else (gantletlaw09_EventNested.l0 kj17 a0 a1 t149 (wrap64 (x8_2 + 1)) x9_2 ((rd_T36 t148 x29_2).f1) t148 (t148.length : Int) (wrap64 (x29_2 + 1)))) else (if (x9_2 != (((rd_T36 t148 x29_2).f0) == 3)) = true then (none) else (gantletlaw09_EventNested.l0 kj17 a0 a1 t149 (wrap64 (x8_2 + 1)) x9_2 ((rd_T36 t148 x29_2).f1) t148 (t148.length : Int) (wrap64 (x29_2 + 1)))))) = some r := by first | (rw [hji27] at H; exact H) | (simp only [hji27] at H ⊢; exact H)
                            have hji27_ : (if a1 < 0 then 0 else a1) = ji27 := hji27
                            by_cases c28 : (wrap64 (x8_2 + 1)) > (ji27)
                            · rw [if_pos c28] at H
                              exact absurd H (by simp)
                            · rw [if_neg c28] at H
                              have c28b0 : decide ((ji27) < (wrap64 (x8_2 + 1))) = false := decide_eq_false c28
                              clear c28
                              by_cases c29 : ((rd_T36 t148 x29_2).f0) = 2
                              · rw [if_pos c29] at H
                                have c29b0 : (((rd_T36 t148 x29_2).f0) == 2) = true := beq_iff_eq.mpr c29
                                have c29b1 : (((rd_T36 t148 x29_2).f0) != 2) = false := bne_eq_false_iff_eq.mpr c29
                                clear c29
                                by_cases c30 : (x9_2 != true) = true
                                · rw [if_pos c30] at H
                                  exact absurd H (by simp)
                                · rw [if_neg c30] at H
                                  have c30b0 : (x9_2 != true) = false := by simpa using c30
                                  (try (have c30b1 : decide (x9_2 = true) = true := by simpa using c30))
                                  (try (have c30b2 : (x9_2 == true) = true := by simpa using c30))
                                  clear c30
                                  have H' := Aside0.mk H
                                  clear H
                                  have hcz31_0 : wc.cell? ⟨gb154, 0, none⟩ = some (.int .i64 ((rd_T36 t148 x29_2).f0)) := (blk_cell BK154.out 0).trans rfl
                                  have hcz31_1 : wc.cell? ⟨gb154, 1, none⟩ = some (.int .i64 ((rd_T36 t148 x29_2).f1)) := (blk_cell BK154.out 1).trans rfl
                                  have hcz31_2 : wc.cell? ⟨gb154, 2, none⟩ = some (.int .i64 ((rd_T36 t148 x29_2).f2.f0)) := (blk_cell BK154.out 2).trans rfl
                                  have hcz31_3 : wc.cell? ⟨gb154, 3, none⟩ = some (.int .i64 ((rd_T36 t148 x29_2).f2.f1)) := (blk_cell BK154.out 3).trans rfl
                                  have hcz31_4 : wc.cell? ⟨gb154, 4, none⟩ = some (.bool ((rd_T36 t148 x29_2).f2.f2)) := (blk_cell BK154.out 4).trans rfl
                                  have hcz31_5 : wc.cell? ⟨gb154, 5, none⟩ = some (.int .i64 ((rd_T36 t148 x29_2).f2.f3)) := (blk_cell BK154.out 5).trans rfl
                                  have hcz31_6 : wc.cell? ⟨gb154, 6, none⟩ = some (.int .u8 ((rd_T36 t148 x29_2).f3)) := (blk_cell BK154.out 6).trans rfl
                                  have hfz31_0 := blk_frozen BK154.out 0
                                  have hfz31_1 := blk_frozen BK154.out 1
                                  have hfz31_2 := blk_frozen BK154.out 2
                                  have hfz31_3 := blk_frozen BK154.out 3
                                  have hfz31_4 := blk_frozen BK154.out 4
                                  have hfz31_5 := blk_frozen BK154.out 5
                                  have hfz31_6 := blk_frozen BK154.out 6
                                  go_wp2
                                  repeat (go_quiet (fail); try go_wp2)
                                  go_roundg kj17
                                  case measure => have := HJ2.out; have := HK2.out; have := HJ17.out; omega
                                  case rel => exact ⟨(wrap64 (x8_2 + 1)), (x9_2), (((rd_T36 t148 x29_2).f1)), (wrap64 (x29_2 + 1)), (by first | rfl | (simp; done) | (simp [*]; done) | (simp [show ∀ l : List UInt8, (!l.isEmpty) = (l != []) from fun l => by cases l <;> rfl]; done)), (by first | rfl | (simp; done) | (simp [*]; done) | (simp [show ∀ l : List UInt8, (!l.isEmpty) = (l != []) from fun l => by cases l <;> rfl]; done)), (by first | rfl | (simp; done) | (simp [*]; done) | (simp [show ∀ l : List UInt8, (!l.isEmpty) = (l != []) from fun l => by cases l <;> rfl]; done)), (by first | rfl | (simp; done) | (simp [*]; done) | (simp [show ∀ l : List UInt8, (!l.isEmpty) = (l != []) from fun l => by cases l <;> rfl]; done)), H', ⟨by have := HJ2.out; have := HK2.out; have := HJ17.out; omega⟩, ⟨by (with_reducible repeat (first | apply Kd.R_alloc | apply Kd.R_drewN | apply Kd.R_drew)); exact Kd.R_mono HO_27.out (fun _ hk => trivial)⟩, ⟨by repeat (first | (with_reducible first | exact HB.out | apply below_alloc | apply pw_below_drewN | apply below_drew1 | refine below_set ?_ GE154.out) | exact HB.out)⟩⟩
                              · rw [if_neg c29] at H
                                have c29b0 : (((rd_T36 t148 x29_2).f0) == 2) = false := beq_eq_false_iff_ne.mpr c29
                                have c29b1 : (((rd_T36 t148 x29_2).f0) != 2) = true := bne_iff_ne.mpr c29
                                by_cases c32 : (x9_2 != (((rd_T36 t148 x29_2).f0) == 3)) = true
                                · rw [if_pos c32] at H
                                  exact absurd H (by simp)
                                · rw [if_neg c32] at H
                                  have c32b0 : (x9_2 != (((rd_T36 t148 x29_2).f0) == 3)) = false := by simpa using c32
                                  (try (have c32x0 : (!(x9_2 == (((rd_T36 t148 x29_2).f0) == 3))) = false := by (have hx_ := c32b0; revert hx_; generalize (((rd_T36 t148 x29_2).f0) == 3) = q2_; cases x9_2 <;> cases q2_ <;> decide)))
                                  (try (have c32y0 : x9_2 = false := by (have hx_ := c32b0; rw [show (((rd_T36 t148 x29_2).f0) == 3) = false by assumption] at hx_; simpa using hx_)))
                                  (try (have c32b1 : decide (x9_2 = (((rd_T36 t148 x29_2).f0) == 3)) = true := by simpa using c32))
                                  (try (have c32b2 : (x9_2 == (((rd_T36 t148 x29_2).f0) == 3)) = true := by simpa using c32))
                                  clear c32
                                  have H' := Aside0.mk H
                                  clear H
                                  have hcz33_0 : wc.cell? ⟨gb154, 0, none⟩ = some (.int .i64 ((rd_T36 t148 x29_2).f0)) := (blk_cell BK154.out 0).trans rfl
                                  have hcz33_1 : wc.cell? ⟨gb154, 1, none⟩ = some (.int .i64 ((rd_T36 t148 x29_2).f1)) := (blk_cell BK154.out 1).trans rfl
                                  have hcz33_2 : wc.cell? ⟨gb154, 2, none⟩ = some (.int .i64 ((rd_T36 t148 x29_2).f2.f0)) := (blk_cell BK154.out 2).trans rfl
                                  have hcz33_3 : wc.cell? ⟨gb154, 3, none⟩ = some (.int .i64 ((rd_T36 t148 x29_2).f2.f1)) := (blk_cell BK154.out 3).trans rfl
                                  have hcz33_4 : wc.cell? ⟨gb154, 4, none⟩ = some (.bool ((rd_T36 t148 x29_2).f2.f2)) := (blk_cell BK154.out 4).trans rfl
                                  have hcz33_5 : wc.cell? ⟨gb154, 5, none⟩ = some (.int .i64 ((rd_T36 t148 x29_2).f2.f3)) := (blk_cell BK154.out 5).trans rfl
                                  have hcz33_6 : wc.cell? ⟨gb154, 6, none⟩ = some (.int .u8 ((rd_T36 t148 x29_2).f3)) := (blk_cell BK154.out 6).trans rfl
                                  have hfz33_0 := blk_frozen BK154.out 0
                                  have hfz33_1 := blk_frozen BK154.out 1
                                  have hfz33_2 := blk_frozen BK154.out 2
                                  have hfz33_3 := blk_frozen BK154.out 3
                                  have hfz33_4 := blk_frozen BK154.out 4
                                  have hfz33_5 := blk_frozen BK154.out 5
                                  have hfz33_6 := blk_frozen BK154.out 6
                                  go_wp2
                                  repeat (go_quiet (fail); try go_wp2)
                                  go_roundg kj17
                                  case measure => have := HJ2.out; have := HK2.out; have := HJ17.out; omega
                                  case rel => exact ⟨(wrap64 (x8_2 + 1)), (x9_2), (((rd_T36 t148 x29_2).f1)), (wrap64 (x29_2 + 1)), (by first | rfl | (simp; done) | (simp [*]; done) | (simp [show ∀ l : List UInt8, (!l.isEmpty) = (l != []) from fun l => by cases l <;> rfl]; done)), (by first | rfl | (simp; done) | (simp [*]; done) | (simp [show ∀ l : List UInt8, (!l.isEmpty) = (l != []) from fun l => by cases l <;> rfl]; done)), (by first | rfl | (simp; done) | (simp [*]; done) | (simp [show ∀ l : List UInt8, (!l.isEmpty) = (l != []) from fun l => by cases l <;> rfl]; done)), (by first | rfl | (simp; done) | (simp [*]; done) | (simp [show ∀ l : List UInt8, (!l.isEmpty) = (l != []) from fun l => by cases l <;> rfl]; done)), H', ⟨by have := HJ2.out; have := HK2.out; have := HJ17.out; omega⟩, ⟨by (with_reducible repeat (first | apply Kd.R_alloc | apply Kd.R_drewN | apply Kd.R_drew)); exact Kd.R_mono HO_27.out (fun _ hk => trivial)⟩, ⟨by repeat (first | (with_reducible first | exact HB.out | apply below_alloc | apply pw_below_drewN | apply below_drew1 | refine below_set ?_ GE154.out) | exact HB.out)⟩⟩
                        · rw [if_neg c25] at H
                          have c25b0 : (((rd_T36 t148 x29_2).f0) == 1) = false := beq_eq_false_iff_ne.mpr c25
                          have c25b1 : (((rd_T36 t148 x29_2).f0) != 1) = true := bne_iff_ne.mpr c25
                          by_cases c34 : ((rd_T36 t148 x29_2).f0) = 5
                          · rw [if_pos c34] at H
                            have c34b0 : (((rd_T36 t148 x29_2).f0) == 5) = true := beq_iff_eq.mpr c34
                            have c34b1 : (((rd_T36 t148 x29_2).f0) != 5) = false := bne_eq_false_iff_eq.mpr c34
                            clear c34
                            by_cases c35 : (wrap64 (x8_2 - 1)) < 0
                            · rw [if_pos c35] at H
                              exact absurd H (by simp)
                            · rw [if_neg c35] at H
                              have c35b0 : decide ((wrap64 (x8_2 - 1)) < 0) = false := decide_eq_false c35
                              clear c35
                              obtain ⟨ji36, hji36⟩ : ∃ j_ : Int, (mx a1 0) = j_ := ⟨_, rfl⟩
                              replace H : (if (wrap64 (x8_2 - 1)) > (ji36) then (none) else (if ((rd_T36 t148 x29_2).f0) = 2 then (if (x9_2 != true) = true then (none) else (gantletlaw09_EventNested.l0 kj17 a0 a1 t149 (wrap64 (x8_2 - 1)) x9_2 ((rd_T36 t148 x29_2).f1) t148 (t148.length : Int) (wrap64 (x29_2 + 1)))) else (if (x9_2 != (((rd_T36 t148 x29_2).f0) == 3)) = true then (none) else (gantletlaw09_EventNested.l0 kj17 a0 a1 t149 (wrap64 (x8_2 - 1)) x9_2 ((rd_T36 t148 x29_2).f1) t148 (t148.length : Int) (wrap64 (x29_2 + 1)))))) = some r := by first | (rw [hji36] at H; exact H) | (simp only [hji36] at H ⊢; exact H)
                              have hji36_ : (if a1 < 0 then 0 else a1) = ji36 := hji36
                              by_cases c37 : (wrap64 (x8_2 - 1)) > (ji36)
                              · rw [if_pos c37] at H
                                exact absurd H (by simp)
                              · rw [if_neg c37] at H
                                have c37b0 : decide ((ji36) < (wrap64 (x8_2 - 1))) = false := decide_eq_false c37
                                clear c37
                                by_cases c38 : ((rd_T36 t148 x29_2).f0) = 2
                                · rw [if_pos c38] at H
                                  have c38b0 : (((rd_T36 t148 x29_2).f0) == 2) = true := beq_iff_eq.mpr c38
                                  have c38b1 : (((rd_T36 t148 x29_2).f0) != 2) = false := bne_eq_false_iff_eq.mpr c38
                                  clear c38
                                  by_cases c39 : (x9_2 != true) = true
                                  · rw [if_pos c39] at H
                                    exact absurd H (by simp)
                                  · rw [if_neg c39] at H
                                    have c39b0 : (x9_2 != true) = false := by simpa using c39
                                    (try (have c39b1 : decide (x9_2 = true) = true := by simpa using c39))
                                    (try (have c39b2 : (x9_2 == true) = true := by simpa using c39))
                                    clear c39
                                    have H' := Aside0.mk H
                                    clear H
                                    have hcz40_0 : wc.cell? ⟨gb154, 0, none⟩ = some (.int .i64 ((rd_T36 t148 x29_2).f0)) := (blk_cell BK154.out 0).trans rfl
                                    have hcz40_1 : wc.cell? ⟨gb154, 1, none⟩ = some (.int .i64 ((rd_T36 t148 x29_2).f1)) := (blk_cell BK154.out 1).trans rfl
                                    have hcz40_2 : wc.cell? ⟨gb154, 2, none⟩ = some (.int .i64 ((rd_T36 t148 x29_2).f2.f0)) := (blk_cell BK154.out 2).trans rfl
                                    have hcz40_3 : wc.cell? ⟨gb154, 3, none⟩ = some (.int .i64 ((rd_T36 t148 x29_2).f2.f1)) := (blk_cell BK154.out 3).trans rfl
                                    have hcz40_4 : wc.cell? ⟨gb154, 4, none⟩ = some (.bool ((rd_T36 t148 x29_2).f2.f2)) := (blk_cell BK154.out 4).trans rfl
                                    have hcz40_5 : wc.cell? ⟨gb154, 5, none⟩ = some (.int .i64 ((rd_T36 t148 x29_2).f2.f3)) := (blk_cell BK154.out 5).trans rfl
                                    have hcz40_6 : wc.cell? ⟨gb154, 6, none⟩ = some (.int .u8 ((rd_T36 t148 x29_2).f3)) := (blk_cell BK154.out 6).trans rfl
                                    have hfz40_0 := blk_frozen BK154.out 0
                                    have hfz40_1 := blk_frozen BK154.out 1
                                    have hfz40_2 := blk_frozen BK154.out 2
                                    have hfz40_3 := blk_frozen BK154.out 3
                                    have hfz40_4 := blk_frozen BK154.out 4
                                    have hfz40_5 := blk_frozen BK154.out 5
                                    have hfz40_6 := blk_frozen BK154.out 6
                                    go_wp2
                                    repeat (go_quiet (fail); try go_wp2)
                                    go_roundg kj17
                                    case measure => have := HJ2.out; have := HK2.out; have := HJ17.out; omega
                                    case rel => exact ⟨(wrap64 (x8_2 - 1)), (x9_2), (((rd_T36 t148 x29_2).f1)), (wrap64 (x29_2 + 1)), (by first | rfl | (simp; done) | (simp [*]; done) | (simp [show ∀ l : List UInt8, (!l.isEmpty) = (l != []) from fun l => by cases l <;> rfl]; done)), (by first | rfl | (simp; done) | (simp [*]; done) | (simp [show ∀ l : List UInt8, (!l.isEmpty) = (l != []) from fun l => by cases l <;> rfl]; done)), (by first | rfl | (simp; done) | (simp [*]; done) | (simp [show ∀ l : List UInt8, (!l.isEmpty) = (l != []) from fun l => by cases l <;> rfl]; done)), (by first | rfl | (simp; done) | (simp [*]; done) | (simp [show ∀ l : List UInt8, (!l.isEmpty) = (l != []) from fun l => by cases l <;> rfl]; done)), H', ⟨by have := HJ2.out; have := HK2.out; have := HJ17.out; omega⟩, ⟨by (with_reducible repeat (first | apply Kd.R_alloc | apply Kd.R_drewN | apply Kd.R_drew)); exact Kd.R_mono HO_27.out (fun _ hk => trivial)⟩, ⟨by repeat (first | (with_reducible first | exact HB.out | apply below_alloc | apply pw_below_drewN | apply below_drew1 | refine below_set ?_ GE154.out) | exact HB.out)⟩⟩
                                · rw [if_neg c38] at H
                                  have c38b0 : (((rd_T36 t148 x29_2).f0) == 2) = false := beq_eq_false_iff_ne.mpr c38
                                  have c38b1 : (((rd_T36 t148 x29_2).f0) != 2) = true := bne_iff_ne.mpr c38
                                  by_cases c41 : (x9_2 != (((rd_T36 t148 x29_2).f0) == 3)) = true
                                  · rw [if_pos c41] at H
                                    exact absurd H (by simp)
                                  · rw [if_neg c41] at H
                                    have c41b0 : (x9_2 != (((rd_T36 t148 x29_2).f0) == 3)) = false := by simpa using c41
                                    (try (have c41x0 : (!(x9_2 == (((rd_T36 t148 x29_2).f0) == 3))) = false := by (have hx_ := c41b0; revert hx_; generalize (((rd_T36 t148 x29_2).f0) == 3) = q2_; cases x9_2 <;> cases q2_ <;> decide)))
                                    (try (have c41y0 : x9_2 = false := by (have hx_ := c41b0; rw [show (((rd_T36 t148 x29_2).f0) == 3) = false by assumption] at hx_; simpa using hx_)))
                                    (try (have c41b1 : decide (x9_2 = (((rd_T36 t148 x29_2).f0) == 3)) = true := by simpa using c41))
                                    (try (have c41b2 : (x9_2 == (((rd_T36 t148 x29_2).f0) == 3)) = true := by simpa using c41))
                                    clear c41
                                    have H' := Aside0.mk H
                                    clear H
                                    have hcz42_0 : wc.cell? ⟨gb154, 0, none⟩ = some (.int .i64 ((rd_T36 t148 x29_2).f0)) := (blk_cell BK154.out 0).trans rfl
                                    have hcz42_1 : wc.cell? ⟨gb154, 1, none⟩ = some (.int .i64 ((rd_T36 t148 x29_2).f1)) := (blk_cell BK154.out 1).trans rfl
                                    have hcz42_2 : wc.cell? ⟨gb154, 2, none⟩ = some (.int .i64 ((rd_T36 t148 x29_2).f2.f0)) := (blk_cell BK154.out 2).trans rfl
                                    have hcz42_3 : wc.cell? ⟨gb154, 3, none⟩ = some (.int .i64 ((rd_T36 t148 x29_2).f2.f1)) := (blk_cell BK154.out 3).trans rfl
                                    have hcz42_4 : wc.cell? ⟨gb154, 4, none⟩ = some (.bool ((rd_T36 t148 x29_2).f2.f2)) := (blk_cell BK154.out 4).trans rfl
                                    have hcz42_5 : wc.cell? ⟨gb154, 5, none⟩ = some (.int .i64 ((rd_T36 t148 x29_2).f2.f3)) := (blk_cell BK154.out 5).trans rfl
                                    have hcz42_6 : wc.cell? ⟨gb154, 6, none⟩ = some (.int .u8 ((rd_T36 t148 x29_2).f3)) := (blk_cell BK154.out 6).trans rfl
                                    have hfz42_0 := blk_frozen BK154.out 0
                                    have hfz42_1 := blk_frozen BK154.out 1
                                    have hfz42_2 := blk_frozen BK154.out 2
                                    have hfz42_3 := blk_frozen BK154.out 3
                                    have hfz42_4 := blk_frozen BK154.out 4
                                    have hfz42_5 := blk_frozen BK154.out 5
                                    have hfz42_6 := blk_frozen BK154.out 6
                                    go_wp2
                                    repeat (go_quiet (fail); try go_wp2)
                                    go_roundg kj17
                                    case measure => have := HJ2.out; have := HK2.out; have := HJ17.out; omega
                                    case rel => exact ⟨(wrap64 (x8_2 - 1)), (x9_2), (((rd_T36 t148 x29_2).f1)), (wrap64 (x29_2 + 1)), (by first | rfl | (simp; done) | (simp [*]; done) | (simp [show ∀ l : List UInt8, (!l.isEmpty) = (l != []) from fun l => by cases l <;> rfl]; done)), (by first | rfl | (simp; done) | (simp [*]; done) | (simp [show ∀ l : List UInt8, (!l.isEmpty) = (l != []) from fun l => by cases l <;> rfl]; done)), (by first | rfl | (simp; done) | (simp [*]; done) | (simp [show ∀ l : List UInt8, (!l.isEmpty) = (l != []) from fun l => by cases l <;> rfl]; done)), (by first | rfl | (simp; done) | (simp [*]; done) | (simp [show ∀ l : List UInt8, (!l.isEmpty) = (l != []) from fun l => by cases l <;> rfl]; done)), H', ⟨by have := HJ2.out; have := HK2.out; have := HJ17.out; omega⟩, ⟨by (with_reducible repeat (first | apply Kd.R_alloc | apply Kd.R_drewN | apply Kd.R_drew)); exact Kd.R_mono HO_27.out (fun _ hk => trivial)⟩, ⟨by repeat (first | (with_reducible first | exact HB.out | apply below_alloc | apply pw_below_drewN | apply below_drew1 | refine below_set ?_ GE154.out) | exact HB.out)⟩⟩
                          · rw [if_neg c34] at H
                            have c34b0 : (((rd_T36 t148 x29_2).f0) == 5) = false := beq_eq_false_iff_ne.mpr c34
                            have c34b1 : (((rd_T36 t148 x29_2).f0) != 5) = true := bne_iff_ne.mpr c34
                            have HC43 := Aside0.mk H
                            clear H
                            have hcz44_0 : wc.cell? ⟨gb154, 0, none⟩ = some (.int .i64 ((rd_T36 t148 x29_2).f0)) := (blk_cell BK154.out 0).trans rfl
                            have hcz44_1 : wc.cell? ⟨gb154, 1, none⟩ = some (.int .i64 ((rd_T36 t148 x29_2).f1)) := (blk_cell BK154.out 1).trans rfl
                            have hcz44_2 : wc.cell? ⟨gb154, 2, none⟩ = some (.int .i64 ((rd_T36 t148 x29_2).f2.f0)) := (blk_cell BK154.out 2).trans rfl
                            have hcz44_3 : wc.cell? ⟨gb154, 3, none⟩ = some (.int .i64 ((rd_T36 t148 x29_2).f2.f1)) := (blk_cell BK154.out 3).trans rfl
                            have hcz44_4 : wc.cell? ⟨gb154, 4, none⟩ = some (.bool ((rd_T36 t148 x29_2).f2.f2)) := (blk_cell BK154.out 4).trans rfl
                            have hcz44_5 : wc.cell? ⟨gb154, 5, none⟩ = some (.int .i64 ((rd_T36 t148 x29_2).f2.f3)) := (blk_cell BK154.out 5).trans rfl
                            have hcz44_6 : wc.cell? ⟨gb154, 6, none⟩ = some (.int .u8 ((rd_T36 t148 x29_2).f3)) := (blk_cell BK154.out 6).trans rfl
                            have hfz44_0 := blk_frozen BK154.out 0
                            have hfz44_1 := blk_frozen BK154.out 1
                            have hfz44_2 := blk_frozen BK154.out 2
                            have hfz44_3 := blk_frozen BK154.out 3
                            have hfz44_4 := blk_frozen BK154.out 4
                            have hfz44_5 := blk_frozen BK154.out 5
                            have hfz44_6 := blk_frozen BK154.out 6
                            go_upto_if 56 with (fail)
                            repeat (go_quiet (fail); go_upto_if 56 with (fail))
                            go_cut [56] (fun v56 wc => ∃ (kq : Nat) (x56_42 : Bool), v56 = .bool x56_42 ∧ Aside0 (gantletlaw09_EventNested.j3 kq a0 a1 t149 x8_2 x9_2 ((rd_T36 t148 x29_2).f1) t148 (t148.length : Int) x29_2 ((rd_T36 t148 x29_2).f0) x56_42 ((rd_T36 t148 x29_2).f0) ((rd_T36 t148 x29_2).f1) ((rd_T36 t148 x29_2).f2.f0) ((rd_T36 t148 x29_2).f2.f1) ((rd_T36 t148 x29_2).f2.f2) ((rd_T36 t148 x29_2).f2.f3) ((rd_T36 t148 x29_2).f3) = some r) ∧ Aside0 (kq ≤ kj17) ∧ Aside0 (Kd.R k36 36 wc w.heap.size (fun k_ => k_ ≠ gb154) (.slice (some ad153) t148.length co14) t148) ∧ Aside0 (wc.heap[gb154]? = some (.cells #[.int .i64 ((rd_T36 t148 x29_2).f0), .int .i64 ((rd_T36 t148 x29_2).f1), .int .i64 ((rd_T36 t148 x29_2).f2.f0), .int .i64 ((rd_T36 t148 x29_2).f2.f1), .bool ((rd_T36 t148 x29_2).f2.f2), .int .i64 ((rd_T36 t148 x29_2).f2.f3), .int .u8 ((rd_T36 t148 x29_2).f3)] 36 (0, 0))) ∧ Aside0 (Below w.heap.size w wc))
                            case first =>
                              have H := HC43.out
                              clear HC43
                              by_cases c45 : ((rd_T36 t148 x29_2).f0) = 2
                              · rw [if_pos c45] at H
                                have c45b0 : (((rd_T36 t148 x29_2).f0) == 2) = true := beq_iff_eq.mpr c45
                                have c45b1 : (((rd_T36 t148 x29_2).f0) != 2) = false := bne_eq_false_iff_eq.mpr c45
                                clear c45
                                (first | rw [c45b0] | (simp only [i64_w, i32_w]; rw [c45b0]) | skip)
                                have H' := Aside0.mk H
                                clear H
                                go_wp2
                                repeat (go_quiet (fail); try go_wp2)
                                go_meet
                                case rel => exact ⟨_, ((((rd_T36 t148 x29_2).f0) == 2)), (by first | rfl | (simp; done) | (simp [*]; done) | (simp [show ∀ l : List UInt8, (!l.isEmpty) = (l != []) from fun l => by cases l <;> rfl]; done)), H', ⟨by have := HJ2.out; have := HK2.out; have := HJ17.out; first | omega | exact Nat.le_refl _⟩, ⟨by (with_reducible repeat (first | apply Kd.R_alloc | apply Kd.R_drewN | apply Kd.R_drew)); exact HO_27.out⟩, ⟨by (with_reducible repeat (first | refine blk_drewN ?_ _ | refine blk_drew ?_ | refine blk_alloc ?_ _)); exact BK154.out⟩, ⟨by repeat (first | (with_reducible first | exact HB.out | apply below_alloc | apply pw_below_drewN | apply below_drew1 | refine below_set ?_ GE154.out) | exact HB.out)⟩⟩
                              · rw [if_neg c45] at H
                                have c45b0 : (((rd_T36 t148 x29_2).f0) == 2) = false := beq_eq_false_iff_ne.mpr c45
                                have c45b1 : (((rd_T36 t148 x29_2).f0) != 2) = true := bne_iff_ne.mpr c45
                                (first | rw [c45b0] | (simp only [i64_w, i32_w]; rw [c45b0]) | skip)
                                have H' := Aside0.mk H
                                clear H
                                go_wp2
                                repeat (go_quiet (fail); try go_wp2)
                                go_meet
                                case rel => exact ⟨_, ((((rd_T36 t148 x29_2).f0) == 4)), (by first | rfl | (simp; done) | (simp [*]; done) | (simp [show ∀ l : List UInt8, (!l.isEmpty) = (l != []) from fun l => by cases l <;> rfl]; done)), H', ⟨by have := HJ2.out; have := HK2.out; have := HJ17.out; first | omega | exact Nat.le_refl _⟩, ⟨by (with_reducible repeat (first | apply Kd.R_alloc | apply Kd.R_drewN | apply Kd.R_drew)); exact HO_27.out⟩, ⟨by (with_reducible repeat (first | refine blk_drewN ?_ _ | refine blk_drew ?_ | refine blk_alloc ?_ _)); exact BK154.out⟩, ⟨by repeat (first | (with_reducible first | exact HB.out | apply below_alloc | apply pw_below_drewN | apply below_drew1 | refine below_set ?_ GE154.out) | exact HB.out)⟩⟩
                            case rest =>
                              clear HC43
                              try clear c1
                              try clear p1
                              try clear q1
                              try clear hx1
                              try clear c2
                              try clear p2
                              try clear c3
                              try clear c4
                              try clear c5
                              try clear p6
                              try clear c9
                              try clear c15
                              try clear c15b0
                              try clear p15
                              try clear q15
                              try clear hx15
                              try clear c16
                              try clear c16b0
                              try clear c17
                              try clear c17b0
                              try clear c21
                              try clear c21b0
                              try clear c24
                              try clear c25
                              try clear c25b0
                              try clear c25b1
                              try clear c26
                              try clear c26b0
                              try clear c28
                              try clear c28b0
                              try clear c29
                              try clear c29b0
                              try clear c29b1
                              try clear c30
                              try clear c30b0
                              try clear c30b1
                              try clear c30b2
                              try clear c32
                              try clear c32b0
                              try clear c32b1
                              try clear c32b2
                              try clear c34
                              try clear c34b0
                              try clear c34b1
                              try clear c35
                              try clear c35b0
                              try clear c37
                              try clear c37b0
                              try clear c38
                              try clear c38b0
                              try clear c38b1
                              try clear c39
                              try clear c39b0
                              try clear c39b1
                              try clear c39b2
                              try clear c41
                              try clear c41b0
                              try clear c41b1
                              try clear c41b2
                              try clear c45
                              try clear c45b0
                              try clear c45b1
                              try clear hcz20_0
                              try clear hcz20_1
                              try clear hcz20_2
                              try clear hcz20_3
                              try clear hcz20_4
                              try clear hcz20_5
                              try clear hcz20_6
                              try clear hcz22_0
                              try clear hcz22_1
                              try clear hcz22_2
                              try clear hcz22_3
                              try clear hcz22_4
                              try clear hcz22_5
                              try clear hcz22_6
                              try clear hcz23_0
                              try clear hcz23_1
                              try clear hcz23_2
                              try clear hcz23_3
                              try clear hcz23_4
                              try clear hcz23_5
                              try clear hcz23_6
                              try clear hcz31_0
                              try clear hcz31_1
                              try clear hcz31_2
                              try clear hcz31_3
                              try clear hcz31_4
                              try clear hcz31_5
                              try clear hcz31_6
                              try clear hcz33_0
                              try clear hcz33_1
                              try clear hcz33_2
                              try clear hcz33_3
                              try clear hcz33_4
                              try clear hcz33_5
                              try clear hcz33_6
                              try clear hcz40_0
                              try clear hcz40_1
                              try clear hcz40_2
                              try clear hcz40_3
                              try clear hcz40_4
                              try clear hcz40_5
                              try clear hcz40_6
                              try clear hcz42_0
                              try clear hcz42_1
                              try clear hcz42_2
                              try clear hcz42_3
                              try clear hcz42_4
                              try clear hcz42_5
                              try clear hcz42_6
                              try clear hcz44_0
                              try clear hcz44_1
                              try clear hcz44_2
                              try clear hcz44_3
                              try clear hcz44_4
                              try clear hcz44_5
                              try clear hcz44_6
                              try clear hfz20_0
                              try clear hfz20_1
                              try clear hfz20_2
                              try clear hfz20_3
                              try clear hfz20_4
                              try clear hfz20_5
                              try clear hfz20_6
                              try clear hfz22_0
                              try clear hfz22_1
                              try clear hfz22_2
                              try clear hfz22_3
                              try clear hfz22_4
                              try clear hfz22_5
                              try clear hfz22_6
                              try clear hfz23_0
                              try clear hfz23_1
                              try clear hfz23_2
                              try clear hfz23_3
                              try clear hfz23_4
                              try clear hfz23_5
                              try clear hfz23_6
                              try clear hfz31_0
                              try clear hfz31_1
                              try clear hfz31_2
                              try clear hfz31_3
                              try clear hfz31_4
                              try clear hfz31_5
                              try clear hfz31_6
                              try clear hfz33_0
                              try clear hfz33_1
                              try clear hfz33_2
                              try clear hfz33_3
                              try clear hfz33_4
                              try clear hfz33_5
                              try clear hfz33_6
                              try clear hfz40_0
                              try clear hfz40_1
                              try clear hfz40_2
                              try clear hfz40_3
                              try clear hfz40_4
                              try clear hfz40_5
                              try clear hfz40_6
                              try clear hfz42_0
                              try clear hfz42_1
                              try clear hfz42_2
                              try clear hfz42_3
                              try clear hfz42_4
                              try clear hfz42_5
                              try clear hfz42_6
                              try clear hfz44_0
                              try clear hfz44_1
                              try clear hfz44_2
                              try clear hfz44_3
                              try clear hfz44_4
                              try clear hfz44_5
                              try clear hfz44_6
                              try clear hx153_0
                              try clear hx153_1
                              try clear hx153_2
                              try clear hx153_3
                              try clear hx153_4
                              try clear hx153_5
                              try clear hx153_6
                              try clear p1
                              try clear p15
                              try clear p153
                              try clear p2
                              try clear q1
                              try clear q15
                              try clear q153
                              obtain ⟨kq, x56_42, rfl, HA, HJ42, HO_27, BK154, HB⟩ := hcut
                              cases kq with
                              | zero => exact absurd HA.out (by simp [gantletlaw09_EventNested.j3])
                              | succ kj42 =>
                                have H := HA.out
                                clear HA
                                simp only [gantletlaw09_EventNested.j3] at H
                                by_cases c46 : x56_42 = true
                                · subst c46
                                  have H1 : (if x8_2 < 0 then (none) else (if x8_2 > (mx a1 0) then (none) else (if ((rd_T36 t148 x29_2).f0) = 2 then (if ((!x9_2) != true) = true then (none) else (gantletlaw09_EventNested.l0 kj42 a0 a1 t149 x8_2 (!x9_2) ((rd_T36 t148 x29_2).f1) t148 (t148.length : Int) (wrap64 (x29_2 + 1)))) else (if ((!x9_2) != (((rd_T36 t148 x29_2).f0) == 3)) = true then (none) else (gantletlaw09_EventNested.l0 kj42 a0 a1 t149 x8_2 (!x9_2) ((rd_T36 t148 x29_2).f1) t148 (t148.length : Int) (wrap64 (x29_2 + 1))))))) = some r := by rw [if_pos rfl] at H; exact H
                                  clear H
                                  have H := H1
                                  clear H1
                                  by_cases c47 : x8_2 < 0
                                  · rw [if_pos c47] at H
                                    exact absurd H (by simp)
                                  · rw [if_neg c47] at H
                                    have c47b0 : decide (x8_2 < 0) = false := decide_eq_false c47
                                    clear c47
                                    obtain ⟨ji48, hji48⟩ : ∃ j_ : Int, (mx a1 0) = j_ := ⟨_, rfl⟩
                                    replace H : (if x8_2 > (ji48) then (none) else (if ((rd_T36 t148 x29_2).f0) = 2 then (if ((!x9_2) != true) = true then (none) else (gantletlaw09_EventNested.l0 kj42 a0 a1 t149 x8_2 (!x9_2) ((rd_T36 t148 x29_2).f1) t148 (t148.length : Int) (wrap64 (x29_2 + 1)))) else (if ((!x9_2) != (((rd_T36 t148 x29_2).f0) == 3)) = true then (none) else (gantletlaw09_EventNested.l0 kj42 a0 a1 t149 x8_2 (!x9_2) ((rd_T36 t148 x29_2).f1) t148 (t148.length : Int) (wrap64 (x29_2 + 1)))))) = some r := by first | (rw [hji48] at H; exact H) | (simp only [hji48] at H ⊢; exact H)
                                    have hji48_ : (if a1 < 0 then 0 else a1) = ji48 := hji48
                                    by_cases c49 : x8_2 > (ji48)
                                    · rw [if_pos c49] at H
                                      exact absurd H (by simp)
                                    · rw [if_neg c49] at H
                                      have c49b0 : decide ((ji48) < x8_2) = false := decide_eq_false c49
                                      clear c49
                                      by_cases c50 : ((rd_T36 t148 x29_2).f0) = 2
                                      · rw [if_pos c50] at H
                                        have c50b0 : (((rd_T36 t148 x29_2).f0) == 2) = true := beq_iff_eq.mpr c50
                                        have c50b1 : (((rd_T36 t148 x29_2).f0) != 2) = false := bne_eq_false_iff_eq.mpr c50
                                        clear c50
                                        by_cases c51 : ((!x9_2) != true) = true
                                        · rw [if_pos c51] at H
                                          exact absurd H (by simp)
                                        · rw [if_neg c51] at H
                                          have c51b0 : ((!x9_2) != true) = false := by simpa using c51
                                          (try (have c51b1 : decide ((!x9_2) = true) = true := by simpa using c51))
                                          (try (have c51b2 : ((!x9_2) == true) = true := by simpa using c51))
                                          clear c51
                                          have H' := Aside0.mk H
                                          clear H
                                          have hcz52_0 : wc.cell? ⟨gb154, 0, none⟩ = some (.int .i64 ((rd_T36 t148 x29_2).f0)) := (blk_cell BK154.out 0).trans rfl
                                          have hcz52_1 : wc.cell? ⟨gb154, 1, none⟩ = some (.int .i64 ((rd_T36 t148 x29_2).f1)) := (blk_cell BK154.out 1).trans rfl
                                          have hcz52_2 : wc.cell? ⟨gb154, 2, none⟩ = some (.int .i64 ((rd_T36 t148 x29_2).f2.f0)) := (blk_cell BK154.out 2).trans rfl
                                          have hcz52_3 : wc.cell? ⟨gb154, 3, none⟩ = some (.int .i64 ((rd_T36 t148 x29_2).f2.f1)) := (blk_cell BK154.out 3).trans rfl
                                          have hcz52_4 : wc.cell? ⟨gb154, 4, none⟩ = some (.bool ((rd_T36 t148 x29_2).f2.f2)) := (blk_cell BK154.out 4).trans rfl
                                          have hcz52_5 : wc.cell? ⟨gb154, 5, none⟩ = some (.int .i64 ((rd_T36 t148 x29_2).f2.f3)) := (blk_cell BK154.out 5).trans rfl
                                          have hcz52_6 : wc.cell? ⟨gb154, 6, none⟩ = some (.int .u8 ((rd_T36 t148 x29_2).f3)) := (blk_cell BK154.out 6).trans rfl
                                          have hfz52_0 := blk_frozen BK154.out 0
                                          have hfz52_1 := blk_frozen BK154.out 1
                                          have hfz52_2 := blk_frozen BK154.out 2
                                          have hfz52_3 := blk_frozen BK154.out 3
                                          have hfz52_4 := blk_frozen BK154.out 4
                                          have hfz52_5 := blk_frozen BK154.out 5
                                          have hfz52_6 := blk_frozen BK154.out 6
                                          go_wp2
                                          repeat (go_quiet (fail); try go_wp2)
                                          go_roundg kj42
                                          case measure => have := HJ2.out; have := HK2.out; have := HJ17.out; have := HJ42.out; omega
                                          case rel => exact ⟨(x8_2), (!x9_2), (((rd_T36 t148 x29_2).f1)), (wrap64 (x29_2 + 1)), (by first | rfl | (simp; done) | (simp [*]; done) | (simp [show ∀ l : List UInt8, (!l.isEmpty) = (l != []) from fun l => by cases l <;> rfl]; done)), (by first | rfl | (simp; done) | (simp [*]; done) | (simp [show ∀ l : List UInt8, (!l.isEmpty) = (l != []) from fun l => by cases l <;> rfl]; done)), (by first | rfl | (simp; done) | (simp [*]; done) | (simp [show ∀ l : List UInt8, (!l.isEmpty) = (l != []) from fun l => by cases l <;> rfl]; done)), (by first | rfl | (simp; done) | (simp [*]; done) | (simp [show ∀ l : List UInt8, (!l.isEmpty) = (l != []) from fun l => by cases l <;> rfl]; done)), H', ⟨by have := HJ2.out; have := HK2.out; have := HJ17.out; have := HJ42.out; omega⟩, ⟨by (with_reducible repeat (first | apply Kd.R_alloc | apply Kd.R_drewN | apply Kd.R_drew)); exact Kd.R_mono HO_27.out (fun _ hk => trivial)⟩, ⟨by repeat (first | (with_reducible first | exact HB.out | apply below_alloc | apply pw_below_drewN | apply below_drew1 | refine below_set ?_ GE154.out) | exact HB.out)⟩⟩
                                      · rw [if_neg c50] at H
                                        have c50b0 : (((rd_T36 t148 x29_2).f0) == 2) = false := beq_eq_false_iff_ne.mpr c50
                                        have c50b1 : (((rd_T36 t148 x29_2).f0) != 2) = true := bne_iff_ne.mpr c50
                                        by_cases c53 : ((!x9_2) != (((rd_T36 t148 x29_2).f0) == 3)) = true
                                        · rw [if_pos c53] at H
                                          exact absurd H (by simp)
                                        · rw [if_neg c53] at H
                                          have c53b0 : ((!x9_2) != (((rd_T36 t148 x29_2).f0) == 3)) = false := by simpa using c53
                                          (try (have c53x0 : (!((!x9_2) == (((rd_T36 t148 x29_2).f0) == 3))) = false := by (have hx_ := c53b0; revert hx_; generalize (((rd_T36 t148 x29_2).f0) == 3) = q2_; cases x9_2 <;> cases q2_ <;> decide)))
                                          (try (have c53y0 : (!x9_2) = false := by (have hx_ := c53b0; rw [show (((rd_T36 t148 x29_2).f0) == 3) = false by assumption] at hx_; simpa using hx_)))
                                          (try (have c53b1 : decide ((!x9_2) = (((rd_T36 t148 x29_2).f0) == 3)) = true := by simpa using c53))
                                          (try (have c53b2 : ((!x9_2) == (((rd_T36 t148 x29_2).f0) == 3)) = true := by simpa using c53))
                                          clear c53
                                          have H' := Aside0.mk H
                                          clear H
                                          have hcz54_0 : wc.cell? ⟨gb154, 0, none⟩ = some (.int .i64 ((rd_T36 t148 x29_2).f0)) := (blk_cell BK154.out 0).trans rfl
                                          have hcz54_1 : wc.cell? ⟨gb154, 1, none⟩ = some (.int .i64 ((rd_T36 t148 x29_2).f1)) := (blk_cell BK154.out 1).trans rfl
                                          have hcz54_2 : wc.cell? ⟨gb154, 2, none⟩ = some (.int .i64 ((rd_T36 t148 x29_2).f2.f0)) := (blk_cell BK154.out 2).trans rfl
                                          have hcz54_3 : wc.cell? ⟨gb154, 3, none⟩ = some (.int .i64 ((rd_T36 t148 x29_2).f2.f1)) := (blk_cell BK154.out 3).trans rfl
                                          have hcz54_4 : wc.cell? ⟨gb154, 4, none⟩ = some (.bool ((rd_T36 t148 x29_2).f2.f2)) := (blk_cell BK154.out 4).trans rfl
                                          have hcz54_5 : wc.cell? ⟨gb154, 5, none⟩ = some (.int .i64 ((rd_T36 t148 x29_2).f2.f3)) := (blk_cell BK154.out 5).trans rfl
                                          have hcz54_6 : wc.cell? ⟨gb154, 6, none⟩ = some (.int .u8 ((rd_T36 t148 x29_2).f3)) := (blk_cell BK154.out 6).trans rfl
                                          have hfz54_0 := blk_frozen BK154.out 0
                                          have hfz54_1 := blk_frozen BK154.out 1
                                          have hfz54_2 := blk_frozen BK154.out 2
                                          have hfz54_3 := blk_frozen BK154.out 3
                                          have hfz54_4 := blk_frozen BK154.out 4
                                          have hfz54_5 := blk_frozen BK154.out 5
                                          have hfz54_6 := blk_frozen BK154.out 6
                                          go_wp2
                                          repeat (go_quiet (fail); try go_wp2)
                                          go_roundg kj42
                                          case measure => have := HJ2.out; have := HK2.out; have := HJ17.out; have := HJ42.out; omega
                                          case rel => exact ⟨(x8_2), (!x9_2), (((rd_T36 t148 x29_2).f1)), (wrap64 (x29_2 + 1)), (by first | rfl | (simp; done) | (simp [*]; done) | (simp [show ∀ l : List UInt8, (!l.isEmpty) = (l != []) from fun l => by cases l <;> rfl]; done)), (by first | rfl | (simp; done) | (simp [*]; done) | (simp [show ∀ l : List UInt8, (!l.isEmpty) = (l != []) from fun l => by cases l <;> rfl]; done)), (by first | rfl | (simp; done) | (simp [*]; done) | (simp [show ∀ l : List UInt8, (!l.isEmpty) = (l != []) from fun l => by cases l <;> rfl]; done)), (by first | rfl | (simp; done) | (simp [*]; done) | (simp [show ∀ l : List UInt8, (!l.isEmpty) = (l != []) from fun l => by cases l <;> rfl]; done)), H', ⟨by have := HJ2.out; have := HK2.out; have := HJ17.out; have := HJ42.out; omega⟩, ⟨by (with_reducible repeat (first | apply Kd.R_alloc | apply Kd.R_drewN | apply Kd.R_drew)); exact Kd.R_mono HO_27.out (fun _ hk => trivial)⟩, ⟨by repeat (first | (with_reducible first | exact HB.out | apply below_alloc | apply pw_below_drewN | apply below_drew1 | refine below_set ?_ GE154.out) | exact HB.out)⟩⟩
                                · replace c46 := Bool.eq_false_iff.mpr c46
                                  subst c46
                                  have H1 : (if ((rd_T36 t148 x29_2).f0) = 3 then (if x9_2 = true then (if 0 ≤ ((rd_T36 t148 x29_2).f1) then (if ((rd_T36 t148 x29_2).f1) < (a0.size : Int) then (gantletlaw09_EventNested.j4 kj42 a0 a1 t149 x8_2 x9_2 ((rd_T36 t148 x29_2).f1) t148 (t148.length : Int) x29_2 (((rd_T36 t148 x29_2).f3) != (bt a0 ((rd_T36 t148 x29_2).f1))) ((rd_T36 t148 x29_2).f0) ((rd_T36 t148 x29_2).f1) ((rd_T36 t148 x29_2).f2.f0) ((rd_T36 t148 x29_2).f2.f1) ((rd_T36 t148 x29_2).f2.f2) ((rd_T36 t148 x29_2).f2.f3) ((rd_T36 t148 x29_2).f3)) else (none)) else (none)) else (gantletlaw09_EventNested.j4 kj42 a0 a1 t149 x8_2 x9_2 ((rd_T36 t148 x29_2).f1) t148 (t148.length : Int) x29_2 true ((rd_T36 t148 x29_2).f0) ((rd_T36 t148 x29_2).f1) ((rd_T36 t148 x29_2).f2.f0) ((rd_T36 t148 x29_2).f2.f1) ((rd_T36 t148 x29_2).f2.f2) ((rd_T36 t148 x29_2).f2.f3) ((rd_T36 t148 x29_2).f3))) else (if x8_2 < 0 then (none) else (if x8_2 > (mx a1 0) then (none) else (if ((rd_T36 t148 x29_2).f0) = 2 then (if (x9_2 != true) = true then (none) else (gantletlaw09_EventNested.l0 kj42 a0 a1 t149 x8_2 x9_2 ((rd_T36 t148 x29_2).f1) t148 (t148.length : Int) (wrap64 (x29_2 + 1)))) else (if (x9_2 != (((rd_T36 t148 x29_2).f0) == 3)) = true then (none) else (gantletlaw09_EventNested.l0 kj42 a0 a1 t149 x8_2 x9_2 ((rd_T36 t148 x29_2).f1) t148 (t148.length : Int) (wrap64 (x29_2 + 1)))))))) = some r := by rw [if_neg (show ¬ (false = true) by decide)] at H; exact H
                                  clear H
                                  have H := H1
                                  clear H1
                                  by_cases c55 : ((rd_T36 t148 x29_2).f0) = 3
                                  · rw [if_pos c55] at H
                                    have c55b0 : (((rd_T36 t148 x29_2).f0) == 3) = true := beq_iff_eq.mpr c55
                                    have c55b1 : (((rd_T36 t148 x29_2).f0) != 3) = false := bne_eq_false_iff_eq.mpr c55
                                    clear c55
                                    have HC56 := Aside0.mk H
                                    clear H
                                    go_upto_region 20 with (fail)
                                    repeat (go_quiet (fail); go_upto_region 20 with (fail))
                                    go_cut [73] (fun v73 wc => ∃ (kq : Nat) (x73_55 : Bool), v73 = .bool x73_55 ∧ Aside0 (gantletlaw09_EventNested.j4 kq a0 a1 t149 x8_2 x9_2 ((rd_T36 t148 x29_2).f1) t148 (t148.length : Int) x29_2 x73_55 ((rd_T36 t148 x29_2).f0) ((rd_T36 t148 x29_2).f1) ((rd_T36 t148 x29_2).f2.f0) ((rd_T36 t148 x29_2).f2.f1) ((rd_T36 t148 x29_2).f2.f2) ((rd_T36 t148 x29_2).f2.f3) ((rd_T36 t148 x29_2).f3) = some r) ∧ Aside0 (kq ≤ kj42) ∧ Aside0 (Kd.R k36 36 wc w.heap.size (fun k_ => k_ ≠ gb154) (.slice (some ad153) t148.length co14) t148) ∧ Aside0 (wc.heap[gb154]? = some (.cells #[.int .i64 ((rd_T36 t148 x29_2).f0), .int .i64 ((rd_T36 t148 x29_2).f1), .int .i64 ((rd_T36 t148 x29_2).f2.f0), .int .i64 ((rd_T36 t148 x29_2).f2.f1), .bool ((rd_T36 t148 x29_2).f2.f2), .int .i64 ((rd_T36 t148 x29_2).f2.f3), .int .u8 ((rd_T36 t148 x29_2).f3)] 36 (0, 0))) ∧ Aside0 (Below w.heap.size w wc))
                                    case first =>
                                      have H := HC56.out
                                      clear HC56
                                      by_cases c57 : x9_2 = true
                                      · subst c57
                                        have H1 : (if 0 ≤ ((rd_T36 t148 x29_2).f1) then (if ((rd_T36 t148 x29_2).f1) < (a0.size : Int) then (gantletlaw09_EventNested.j4 kj42 a0 a1 t149 x8_2 true ((rd_T36 t148 x29_2).f1) t148 (t148.length : Int) x29_2 (((rd_T36 t148 x29_2).f3) != (bt a0 ((rd_T36 t148 x29_2).f1))) ((rd_T36 t148 x29_2).f0) ((rd_T36 t148 x29_2).f1) ((rd_T36 t148 x29_2).f2.f0) ((rd_T36 t148 x29_2).f2.f1) ((rd_T36 t148 x29_2).f2.f2) ((rd_T36 t148 x29_2).f2.f3) ((rd_T36 t148 x29_2).f3)) else (none)) else (none)) = some r := by rw [if_pos rfl] at H; exact H
                                        clear H
                                        have H := H1
                                        clear H1
                                        by_cases c58 : 0 ≤ ((rd_T36 t148 x29_2).f1)
                                        · rw [if_pos c58] at H
                                          have c58b0 : decide (0 ≤ ((rd_T36 t148 x29_2).f1)) = true := decide_eq_true c58
                                          clear c58
                                          (first | rw [c58b0] | (simp only [i64_w, i32_w]; rw [c58b0]) | skip)
                                          by_cases c59 : ((rd_T36 t148 x29_2).f1) < (a0.size : Int)
                                          · rw [if_pos c59] at H
                                            have c59b0 : decide (((rd_T36 t148 x29_2).f1) < (a0.size : Int)) = true := decide_eq_true c59
                                            clear c59
                                            have H' := Aside0.mk H
                                            clear H
                                            have hcz61_0 : wc.cell? ⟨gb154, 0, none⟩ = some (.int .i64 ((rd_T36 t148 x29_2).f0)) := (blk_cell BK154.out 0).trans rfl
                                            have hcz61_1 : wc.cell? ⟨gb154, 1, none⟩ = some (.int .i64 ((rd_T36 t148 x29_2).f1)) := (blk_cell BK154.out 1).trans rfl
                                            have hcz61_2 : wc.cell? ⟨gb154, 2, none⟩ = some (.int .i64 ((rd_T36 t148 x29_2).f2.f0)) := (blk_cell BK154.out 2).trans rfl
                                            have hcz61_3 : wc.cell? ⟨gb154, 3, none⟩ = some (.int .i64 ((rd_T36 t148 x29_2).f2.f1)) := (blk_cell BK154.out 3).trans rfl
                                            have hcz61_4 : wc.cell? ⟨gb154, 4, none⟩ = some (.bool ((rd_T36 t148 x29_2).f2.f2)) := (blk_cell BK154.out 4).trans rfl
                                            have hcz61_5 : wc.cell? ⟨gb154, 5, none⟩ = some (.int .i64 ((rd_T36 t148 x29_2).f2.f3)) := (blk_cell BK154.out 5).trans rfl
                                            have hcz61_6 : wc.cell? ⟨gb154, 6, none⟩ = some (.int .u8 ((rd_T36 t148 x29_2).f3)) := (blk_cell BK154.out 6).trans rfl
                                            have hfz61_0 := blk_frozen BK154.out 0
                                            have hfz61_1 := blk_frozen BK154.out 1
                                            have hfz61_2 := blk_frozen BK154.out 2
                                            have hfz61_3 := blk_frozen BK154.out 3
                                            have hfz61_4 := blk_frozen BK154.out 4
                                            have hfz61_5 := blk_frozen BK154.out 5
                                            have hfz61_6 := blk_frozen BK154.out 6
                                            have p60 : 0 ≤ (((rd_T36 t148 x29_2).f1) : Int) := of_decide_eq_true (by first | (with_reducible assumption) | assumption)
                                            have q60 : ((rd_T36 t148 x29_2).f1) < (a0.size : Int) := of_decide_eq_true (by first | (with_reducible assumption) | assumption)
                                            have hx60 := bt_at a0 ((rd_T36 t148 x29_2).f1)
                                            replace p60 := eq_true p60
                                            replace q60 := eq_true q60
                                            go_wp2
                                            repeat (go_quiet (fail); try go_wp2)
                                            go_meet
                                            case rel => exact ⟨_, ((((rd_T36 t148 x29_2).f3) != (bt a0 ((rd_T36 t148 x29_2).f1)))), (by first | rfl | (simp; done) | (simp [*]; done) | (simp [show ∀ l : List UInt8, (!l.isEmpty) = (l != []) from fun l => by cases l <;> rfl]; done)), H', ⟨by have := HJ2.out; have := HK2.out; have := HJ17.out; have := HJ42.out; first | omega | exact Nat.le_refl _⟩, ⟨by (with_reducible repeat (first | apply Kd.R_alloc | apply Kd.R_drewN | apply Kd.R_drew)); exact HO_27.out⟩, ⟨by (with_reducible repeat (first | refine blk_drewN ?_ _ | refine blk_drew ?_ | refine blk_alloc ?_ _)); exact BK154.out⟩, ⟨by repeat (first | (with_reducible first | exact HB.out | apply below_alloc | apply pw_below_drewN | apply below_drew1 | refine below_set ?_ GE154.out) | exact HB.out)⟩⟩
                                          · rw [if_neg c59] at H
                                            exact absurd H (by simp)
                                        · rw [if_neg c58] at H
                                          exact absurd H (by simp)
                                      · replace c57 := Bool.eq_false_iff.mpr c57
                                        subst c57
                                        have H1 : (gantletlaw09_EventNested.j4 kj42 a0 a1 t149 x8_2 false ((rd_T36 t148 x29_2).f1) t148 (t148.length : Int) x29_2 true ((rd_T36 t148 x29_2).f0) ((rd_T36 t148 x29_2).f1) ((rd_T36 t148 x29_2).f2.f0) ((rd_T36 t148 x29_2).f2.f1) ((rd_T36 t148 x29_2).f2.f2) ((rd_T36 t148 x29_2).f2.f3) ((rd_T36 t148 x29_2).f3)) = some r := by rw [if_neg (show ¬ (false = true) by decide)] at H; exact H
                                        clear H
                                        have H := H1
                                        clear H1
                                        have H' := Aside0.mk H
                                        clear H
                                        go_wp2
                                        repeat (go_quiet (fail); try go_wp2)
                                        go_meet
                                        case rel => exact ⟨_, (true), (by first | rfl | (simp; done) | (simp [*]; done) | (simp [show ∀ l : List UInt8, (!l.isEmpty) = (l != []) from fun l => by cases l <;> rfl]; done)), H', ⟨by have := HJ2.out; have := HK2.out; have := HJ17.out; have := HJ42.out; first | omega | exact Nat.le_refl _⟩, ⟨by (with_reducible repeat (first | apply Kd.R_alloc | apply Kd.R_drewN | apply Kd.R_drew)); exact HO_27.out⟩, ⟨by (with_reducible repeat (first | refine blk_drewN ?_ _ | refine blk_drew ?_ | refine blk_alloc ?_ _)); exact BK154.out⟩, ⟨by repeat (first | (with_reducible first | exact HB.out | apply below_alloc | apply pw_below_drewN | apply below_drew1 | refine below_set ?_ GE154.out) | exact HB.out)⟩⟩
                                    case rest =>
                                      clear HC56
                                      try clear c1
                                      try clear p1
                                      try clear q1
                                      try clear hx1
                                      try clear c2
                                      try clear p2
                                      try clear c3
                                      try clear c4
                                      try clear c5
                                      try clear p6
                                      try clear q6
                                      try clear hx6
                                      try clear c9
                                      try clear c15
                                      try clear c15b0
                                      try clear p15
                                      try clear q15
                                      try clear hx15
                                      try clear c16
                                      try clear c16b0
                                      try clear c17
                                      try clear c17b0
                                      try clear c21
                                      try clear c21b0
                                      try clear c24
                                      try clear c25
                                      try clear c25b0
                                      try clear c25b1
                                      try clear c26
                                      try clear c26b0
                                      try clear c28
                                      try clear c28b0
                                      try clear c29
                                      try clear c29b0
                                      try clear c29b1
                                      try clear c30
                                      try clear c30b0
                                      try clear c30b1
                                      try clear c30b2
                                      try clear c32
                                      try clear c32b0
                                      try clear c32b1
                                      try clear c32b2
                                      try clear c34
                                      try clear c34b0
                                      try clear c34b1
                                      try clear c35
                                      try clear c35b0
                                      try clear c37
                                      try clear c37b0
                                      try clear c38
                                      try clear c38b0
                                      try clear c38b1
                                      try clear c39
                                      try clear c39b0
                                      try clear c39b1
                                      try clear c39b2
                                      try clear c41
                                      try clear c41b0
                                      try clear c41b1
                                      try clear c41b2
                                      try clear c45
                                      try clear c45b0
                                      try clear c45b1
                                      try clear c46
                                      try clear c47
                                      try clear c47b0
                                      try clear c49
                                      try clear c49b0
                                      try clear c50
                                      try clear c50b0
                                      try clear c50b1
                                      try clear c51
                                      try clear c51b0
                                      try clear c51b1
                                      try clear c51b2
                                      try clear c53
                                      try clear c53b0
                                      try clear c53b1
                                      try clear c53b2
                                      try clear c55
                                      try clear c55b0
                                      try clear c55b1
                                      try clear c57
                                      try clear c58
                                      try clear c58b0
                                      try clear c59
                                      try clear c59b0
                                      try clear p60
                                      try clear q60
                                      try clear hx60
                                      try clear hcz20_0
                                      try clear hcz20_1
                                      try clear hcz20_2
                                      try clear hcz20_3
                                      try clear hcz20_4
                                      try clear hcz20_5
                                      try clear hcz20_6
                                      try clear hcz22_0
                                      try clear hcz22_1
                                      try clear hcz22_2
                                      try clear hcz22_3
                                      try clear hcz22_4
                                      try clear hcz22_5
                                      try clear hcz22_6
                                      try clear hcz23_0
                                      try clear hcz23_1
                                      try clear hcz23_2
                                      try clear hcz23_3
                                      try clear hcz23_4
                                      try clear hcz23_5
                                      try clear hcz23_6
                                      try clear hcz31_0
                                      try clear hcz31_1
                                      try clear hcz31_2
                                      try clear hcz31_3
                                      try clear hcz31_4
                                      try clear hcz31_5
                                      try clear hcz31_6
                                      try clear hcz33_0
                                      try clear hcz33_1
                                      try clear hcz33_2
                                      try clear hcz33_3
                                      try clear hcz33_4
                                      try clear hcz33_5
                                      try clear hcz33_6
                                      try clear hcz40_0
                                      try clear hcz40_1
                                      try clear hcz40_2
                                      try clear hcz40_3
                                      try clear hcz40_4
                                      try clear hcz40_5
                                      try clear hcz40_6
                                      try clear hcz42_0
                                      try clear hcz42_1
                                      try clear hcz42_2
                                      try clear hcz42_3
                                      try clear hcz42_4
                                      try clear hcz42_5
                                      try clear hcz42_6
                                      try clear hcz44_0
                                      try clear hcz44_1
                                      try clear hcz44_2
                                      try clear hcz44_3
                                      try clear hcz44_4
                                      try clear hcz44_5
                                      try clear hcz44_6
                                      try clear hcz52_0
                                      try clear hcz52_1
                                      try clear hcz52_2
                                      try clear hcz52_3
                                      try clear hcz52_4
                                      try clear hcz52_5
                                      try clear hcz52_6
                                      try clear hcz54_0
                                      try clear hcz54_1
                                      try clear hcz54_2
                                      try clear hcz54_3
                                      try clear hcz54_4
                                      try clear hcz54_5
                                      try clear hcz54_6
                                      try clear hcz61_0
                                      try clear hcz61_1
                                      try clear hcz61_2
                                      try clear hcz61_3
                                      try clear hcz61_4
                                      try clear hcz61_5
                                      try clear hcz61_6
                                      try clear hfz20_0
                                      try clear hfz20_1
                                      try clear hfz20_2
                                      try clear hfz20_3
                                      try clear hfz20_4
                                      try clear hfz20_5
                                      try clear hfz20_6
                                      try clear hfz22_0
                                      try clear hfz22_1
                                      try clear hfz22_2
                                      try clear hfz22_3
                                      try clear hfz22_4
                                      try clear hfz22_5
                                      try clear hfz22_6
                                      try clear hfz23_0
                                      try clear hfz23_1
                                      try clear hfz23_2
                                      try clear hfz23_3
                                      try clear hfz23_4
                                      try clear hfz23_5
                                      try clear hfz23_6
                                      try clear hfz31_0
                                      try clear hfz31_1
                                      try clear hfz31_2
                                      try clear hfz31_3
                                      try clear hfz31_4
                                      try clear hfz31_5
                                      try clear hfz31_6
                                      try clear hfz33_0
                                      try clear hfz33_1
                                      try clear hfz33_2
                                      try clear hfz33_3
                                      try clear hfz33_4
                                      try clear hfz33_5
                                      try clear hfz33_6
                                      try clear hfz40_0
                                      try clear hfz40_1
                                      try clear hfz40_2
                                      try clear hfz40_3
                                      try clear hfz40_4
                                      try clear hfz40_5
                                      try clear hfz40_6
                                      try clear hfz42_0
                                      try clear hfz42_1
                                      try clear hfz42_2
                                      try clear hfz42_3
                                      try clear hfz42_4
                                      try clear hfz42_5
                                      try clear hfz42_6
                                      try clear hfz44_0
                                      try clear hfz44_1
                                      try clear hfz44_2
                                      try clear hfz44_3
                                      try clear hfz44_4
                                      try clear hfz44_5
                                      try clear hfz44_6
                                      try clear hfz52_0
                                      try clear hfz52_1
                                      try clear hfz52_2
                                      try clear hfz52_3
                                      try clear hfz52_4
                                      try clear hfz52_5
                                      try clear hfz52_6
                                      try clear hfz54_0
                                      try clear hfz54_1
                                      try clear hfz54_2
                                      try clear hfz54_3
                                      try clear hfz54_4
                                      try clear hfz54_5
                                      try clear hfz54_6
                                      try clear hfz61_0
                                      try clear hfz61_1
                                      try clear hfz61_2
                                      try clear hfz61_3
                                      try clear hfz61_4
                                      try clear hfz61_5
                                      try clear hfz61_6
                                      try clear hx153_0
                                      try clear hx153_1
                                      try clear hx153_2
                                      try clear hx153_3
                                      try clear hx153_4
                                      try clear hx153_5
                                      try clear hx153_6
                                      try clear p1
                                      try clear p15
                                      try clear p153
                                      try clear p2
                                      try clear p6
                                      try clear p60
                                      try clear q1
                                      try clear q15
                                      try clear q153
                                      try clear q60
                                      obtain ⟨kq, x73_55, rfl, HA, HJ55, HO_27, BK154, HB⟩ := hcut
                                      cases kq with
                                      | zero => exact absurd HA.out (by simp [gantletlaw09_EventNested.j4])
                                      | succ kj55 =>
                                        have H := HA.out
                                        clear HA
                                        simp only [gantletlaw09_EventNested.j4] at H
                                        by_cases c62 : x73_55 = true
                                        · subst c62
                                          have H1 : (none) = some r := by rw [if_pos rfl] at H; exact H
                                          clear H
                                          have H := H1
                                          clear H1
                                          exact absurd H (by simp)
                                        · replace c62 := Bool.eq_false_iff.mpr c62
                                          subst c62
                                          have H1 : (if x8_2 < 0 then (none) else (if x8_2 > (mx a1 0) then (none) else (if ((rd_T36 t148 x29_2).f0) = 2 then (if (x9_2 != true) = true then (none) else (gantletlaw09_EventNested.l0 kj55 a0 a1 t149 x8_2 x9_2 ((rd_T36 t148 x29_2).f1) t148 (t148.length : Int) (wrap64 (x29_2 + 1)))) else (if (x9_2 != (((rd_T36 t148 x29_2).f0) == 3)) = true then (none) else (gantletlaw09_EventNested.l0 kj55 a0 a1 t149 x8_2 x9_2 ((rd_T36 t148 x29_2).f1) t148 (t148.length : Int) (wrap64 (x29_2 + 1))))))) = some r := by rw [if_neg (show ¬ (false = true) by decide)] at H; exact H
                                          clear H
                                          have H := H1
                                          clear H1
                                          by_cases c63 : x8_2 < 0
                                          · rw [if_pos c63] at H
                                            exact absurd H (by simp)
                                          · rw [if_neg c63] at H
                                            have c63b0 : decide (x8_2 < 0) = false := decide_eq_false c63
                                            clear c63
                                            obtain ⟨ji64, hji64⟩ : ∃ j_ : Int, (mx a1 0) = j_ := ⟨_, rfl⟩
                                            replace H : (if x8_2 > (ji64) then (none) else (if ((rd_T36 t148 x29_2).f0) = 2 then (if (x9_2 != true) = true then (none) else (gantletlaw09_EventNested.l0 kj55 a0 a1 t149 x8_2 x9_2 ((rd_T36 t148 x29_2).f1) t148 (t148.length : Int) (wrap64 (x29_2 + 1)))) else (if (x9_2 != (((rd_T36 t148 x29_2).f0) == 3)) = true then (none) else (gantletlaw09_EventNested.l0 kj55 a0 a1 t149 x8_2 x9_2 ((rd_T36 t148 x29_2).f1) t148 (t148.length : Int) (wrap64 (x29_2 + 1)))))) = some r := by first | (rw [hji64] at H; exact H) | (simp only [hji64] at H ⊢; exact H)
                                            have hji64_ : (if a1 < 0 then 0 else a1) = ji64 := hji64
                                            by_cases c65 : x8_2 > (ji64)
                                            · rw [if_pos c65] at H
                                              exact absurd H (by simp)
                                            · rw [if_neg c65] at H
                                              have c65b0 : decide ((ji64) < x8_2) = false := decide_eq_false c65
                                              clear c65
                                              by_cases c66 : ((rd_T36 t148 x29_2).f0) = 2
                                              · rw [if_pos c66] at H
                                                have c66b0 : (((rd_T36 t148 x29_2).f0) == 2) = true := beq_iff_eq.mpr c66
                                                have c66b1 : (((rd_T36 t148 x29_2).f0) != 2) = false := bne_eq_false_iff_eq.mpr c66
                                                clear c66
                                                by_cases c67 : (x9_2 != true) = true
                                                · rw [if_pos c67] at H
                                                  exact absurd H (by simp)
                                                · rw [if_neg c67] at H
                                                  have c67b0 : (x9_2 != true) = false := by simpa using c67
                                                  (try (have c67b1 : decide (x9_2 = true) = true := by simpa using c67))
                                                  (try (have c67b2 : (x9_2 == true) = true := by simpa using c67))
                                                  clear c67
                                                  have H' := Aside0.mk H
                                                  clear H
                                                  have hcz68_0 : wc.cell? ⟨gb154, 0, none⟩ = some (.int .i64 ((rd_T36 t148 x29_2).f0)) := (blk_cell BK154.out 0).trans rfl
                                                  have hcz68_1 : wc.cell? ⟨gb154, 1, none⟩ = some (.int .i64 ((rd_T36 t148 x29_2).f1)) := (blk_cell BK154.out 1).trans rfl
                                                  have hcz68_2 : wc.cell? ⟨gb154, 2, none⟩ = some (.int .i64 ((rd_T36 t148 x29_2).f2.f0)) := (blk_cell BK154.out 2).trans rfl
                                                  have hcz68_3 : wc.cell? ⟨gb154, 3, none⟩ = some (.int .i64 ((rd_T36 t148 x29_2).f2.f1)) := (blk_cell BK154.out 3).trans rfl
                                                  have hcz68_4 : wc.cell? ⟨gb154, 4, none⟩ = some (.bool ((rd_T36 t148 x29_2).f2.f2)) := (blk_cell BK154.out 4).trans rfl
                                                  have hcz68_5 : wc.cell? ⟨gb154, 5, none⟩ = some (.int .i64 ((rd_T36 t148 x29_2).f2.f3)) := (blk_cell BK154.out 5).trans rfl
                                                  have hcz68_6 : wc.cell? ⟨gb154, 6, none⟩ = some (.int .u8 ((rd_T36 t148 x29_2).f3)) := (blk_cell BK154.out 6).trans rfl
                                                  have hfz68_0 := blk_frozen BK154.out 0
                                                  have hfz68_1 := blk_frozen BK154.out 1
                                                  have hfz68_2 := blk_frozen BK154.out 2
                                                  have hfz68_3 := blk_frozen BK154.out 3
                                                  have hfz68_4 := blk_frozen BK154.out 4
                                                  have hfz68_5 := blk_frozen BK154.out 5
                                                  have hfz68_6 := blk_frozen BK154.out 6
                                                  go_wp2
                                                  repeat (go_quiet (fail); try go_wp2)
                                                  go_roundg kj55
                                                  case measure => have := HJ2.out; have := HK2.out; have := HJ17.out; have := HJ42.out; have := HJ55.out; omega
                                                  case rel => exact ⟨(x8_2), (x9_2), (((rd_T36 t148 x29_2).f1)), (wrap64 (x29_2 + 1)), (by first | rfl | (simp; done) | (simp [*]; done) | (simp [show ∀ l : List UInt8, (!l.isEmpty) = (l != []) from fun l => by cases l <;> rfl]; done)), (by first | rfl | (simp; done) | (simp [*]; done) | (simp [show ∀ l : List UInt8, (!l.isEmpty) = (l != []) from fun l => by cases l <;> rfl]; done)), (by first | rfl | (simp; done) | (simp [*]; done) | (simp [show ∀ l : List UInt8, (!l.isEmpty) = (l != []) from fun l => by cases l <;> rfl]; done)), (by first | rfl | (simp; done) | (simp [*]; done) | (simp [show ∀ l : List UInt8, (!l.isEmpty) = (l != []) from fun l => by cases l <;> rfl]; done)), H', ⟨by have := HJ2.out; have := HK2.out; have := HJ17.out; have := HJ42.out; have := HJ55.out; omega⟩, ⟨by (with_reducible repeat (first | apply Kd.R_alloc | apply Kd.R_drewN | apply Kd.R_drew)); exact Kd.R_mono HO_27.out (fun _ hk => trivial)⟩, ⟨by repeat (first | (with_reducible first | exact HB.out | apply below_alloc | apply pw_below_drewN | apply below_drew1 | refine below_set ?_ GE154.out) | exact HB.out)⟩⟩
                                              · rw [if_neg c66] at H
                                                have c66b0 : (((rd_T36 t148 x29_2).f0) == 2) = false := beq_eq_false_iff_ne.mpr c66
                                                have c66b1 : (((rd_T36 t148 x29_2).f0) != 2) = true := bne_iff_ne.mpr c66
                                                by_cases c69 : (x9_2 != (((rd_T36 t148 x29_2).f0) == 3)) = true
                                                · rw [if_pos c69] at H
                                                  exact absurd H (by simp)
                                                · rw [if_neg c69] at H
                                                  have c69b0 : (x9_2 != (((rd_T36 t148 x29_2).f0) == 3)) = false := by simpa using c69
                                                  (try (have c69x0 : (!(x9_2 == (((rd_T36 t148 x29_2).f0) == 3))) = false := by (have hx_ := c69b0; revert hx_; generalize (((rd_T36 t148 x29_2).f0) == 3) = q2_; cases x9_2 <;> cases q2_ <;> decide)))
                                                  (try (have c69y0 : x9_2 = false := by (have hx_ := c69b0; rw [show (((rd_T36 t148 x29_2).f0) == 3) = false by assumption] at hx_; simpa using hx_)))
                                                  (try (have c69b1 : decide (x9_2 = (((rd_T36 t148 x29_2).f0) == 3)) = true := by simpa using c69))
                                                  (try (have c69b2 : (x9_2 == (((rd_T36 t148 x29_2).f0) == 3)) = true := by simpa using c69))
                                                  clear c69
                                                  have H' := Aside0.mk H
                                                  clear H
                                                  have hcz70_0 : wc.cell? ⟨gb154, 0, none⟩ = some (.int .i64 ((rd_T36 t148 x29_2).f0)) := (blk_cell BK154.out 0).trans rfl
                                                  have hcz70_1 : wc.cell? ⟨gb154, 1, none⟩ = some (.int .i64 ((rd_T36 t148 x29_2).f1)) := (blk_cell BK154.out 1).trans rfl
                                                  have hcz70_2 : wc.cell? ⟨gb154, 2, none⟩ = some (.int .i64 ((rd_T36 t148 x29_2).f2.f0)) := (blk_cell BK154.out 2).trans rfl
                                                  have hcz70_3 : wc.cell? ⟨gb154, 3, none⟩ = some (.int .i64 ((rd_T36 t148 x29_2).f2.f1)) := (blk_cell BK154.out 3).trans rfl
                                                  have hcz70_4 : wc.cell? ⟨gb154, 4, none⟩ = some (.bool ((rd_T36 t148 x29_2).f2.f2)) := (blk_cell BK154.out 4).trans rfl
                                                  have hcz70_5 : wc.cell? ⟨gb154, 5, none⟩ = some (.int .i64 ((rd_T36 t148 x29_2).f2.f3)) := (blk_cell BK154.out 5).trans rfl
                                                  have hcz70_6 : wc.cell? ⟨gb154, 6, none⟩ = some (.int .u8 ((rd_T36 t148 x29_2).f3)) := (blk_cell BK154.out 6).trans rfl
                                                  have hfz70_0 := blk_frozen BK154.out 0
                                                  have hfz70_1 := blk_frozen BK154.out 1
                                                  have hfz70_2 := blk_frozen BK154.out 2
                                                  have hfz70_3 := blk_frozen BK154.out 3
                                                  have hfz70_4 := blk_frozen BK154.out 4
                                                  have hfz70_5 := blk_frozen BK154.out 5
                                                  have hfz70_6 := blk_frozen BK154.out 6
                                                  go_wp2
                                                  repeat (go_quiet (fail); try go_wp2)
                                                  go_roundg kj55
                                                  case measure => have := HJ2.out; have := HK2.out; have := HJ17.out; have := HJ42.out; have := HJ55.out; omega
                                                  case rel => exact ⟨(x8_2), (x9_2), (((rd_T36 t148 x29_2).f1)), (wrap64 (x29_2 + 1)), (by first | rfl | (simp; done) | (simp [*]; done) | (simp [show ∀ l : List UInt8, (!l.isEmpty) = (l != []) from fun l => by cases l <;> rfl]; done)), (by first | rfl | (simp; done) | (simp [*]; done) | (simp [show ∀ l : List UInt8, (!l.isEmpty) = (l != []) from fun l => by cases l <;> rfl]; done)), (by first | rfl | (simp; done) | (simp [*]; done) | (simp [show ∀ l : List UInt8, (!l.isEmpty) = (l != []) from fun l => by cases l <;> rfl]; done)), (by first | rfl | (simp; done) | (simp [*]; done) | (simp [show ∀ l : List UInt8, (!l.isEmpty) = (l != []) from fun l => by cases l <;> rfl]; done)), H', ⟨by have := HJ2.out; have := HK2.out; have := HJ17.out; have := HJ42.out; have := HJ55.out; omega⟩, ⟨by (with_reducible repeat (first | apply Kd.R_alloc | apply Kd.R_drewN | apply Kd.R_drew)); exact Kd.R_mono HO_27.out (fun _ hk => trivial)⟩, ⟨by repeat (first | (with_reducible first | exact HB.out | apply below_alloc | apply pw_below_drewN | apply below_drew1 | refine below_set ?_ GE154.out) | exact HB.out)⟩⟩
                                  · rw [if_neg c55] at H
                                    have c55b0 : (((rd_T36 t148 x29_2).f0) == 3) = false := beq_eq_false_iff_ne.mpr c55
                                    have c55b1 : (((rd_T36 t148 x29_2).f0) != 3) = true := bne_iff_ne.mpr c55
                                    by_cases c71 : x8_2 < 0
                                    · rw [if_pos c71] at H
                                      exact absurd H (by simp)
                                    · rw [if_neg c71] at H
                                      have c71b0 : decide (x8_2 < 0) = false := decide_eq_false c71
                                      clear c71
                                      obtain ⟨ji72, hji72⟩ : ∃ j_ : Int, (mx a1 0) = j_ := ⟨_, rfl⟩
                                      replace H : (if x8_2 > (ji72) then (none) else (if ((rd_T36 t148 x29_2).f0) = 2 then (if (x9_2 != true) = true then (none) else (gantletlaw09_EventNested.l0 kj42 a0 a1 t149 x8_2 x9_2 ((rd_T36 t148 x29_2).f1) t148 (t148.length : Int) (wrap64 (x29_2 + 1)))) else (if (x9_2 != (((rd_T36 t148 x29_2).f0) == 3)) = true then (none) else (gantletlaw09_EventNested.l0 kj42 a0 a1 t149 x8_2 x9_2 ((rd_T36 t148 x29_2).f1) t148 (t148.length : Int) (wrap64 (x29_2 + 1)))))) = some r := by first | (rw [hji72] at H; exact H) | (simp only [hji72] at H ⊢; exact H)
                                      have hji72_ : (if a1 < 0 then 0 else a1) = ji72 := hji72
                                      by_cases c73 : x8_2 > (ji72)
                                      · rw [if_pos c73] at H
                                        exact absurd H (by simp)
                                      · rw [if_neg c73] at H
                                        have c73b0 : decide ((ji72) < x8_2) = false := decide_eq_false c73
                                        clear c73
                                        by_cases c74 : ((rd_T36 t148 x29_2).f0) = 2
                                        · rw [if_pos c74] at H
                                          have c74b0 : (((rd_T36 t148 x29_2).f0) == 2) = true := beq_iff_eq.mpr c74
                                          have c74b1 : (((rd_T36 t148 x29_2).f0) != 2) = false := bne_eq_false_iff_eq.mpr c74
                                          clear c74
                                          by_cases c75 : (x9_2 != true) = true
                                          · rw [if_pos c75] at H
                                            exact absurd H (by simp)
                                          · rw [if_neg c75] at H
                                            have c75b0 : (x9_2 != true) = false := by simpa using c75
                                            (try (have c75b1 : decide (x9_2 = true) = true := by simpa using c75))
                                            (try (have c75b2 : (x9_2 == true) = true := by simpa using c75))
                                            clear c75
                                            have H' := Aside0.mk H
                                            clear H
                                            have hcz76_0 : wc.cell? ⟨gb154, 0, none⟩ = some (.int .i64 ((rd_T36 t148 x29_2).f0)) := (blk_cell BK154.out 0).trans rfl
                                            have hcz76_1 : wc.cell? ⟨gb154, 1, none⟩ = some (.int .i64 ((rd_T36 t148 x29_2).f1)) := (blk_cell BK154.out 1).trans rfl
                                            have hcz76_2 : wc.cell? ⟨gb154, 2, none⟩ = some (.int .i64 ((rd_T36 t148 x29_2).f2.f0)) := (blk_cell BK154.out 2).trans rfl
                                            have hcz76_3 : wc.cell? ⟨gb154, 3, none⟩ = some (.int .i64 ((rd_T36 t148 x29_2).f2.f1)) := (blk_cell BK154.out 3).trans rfl
                                            have hcz76_4 : wc.cell? ⟨gb154, 4, none⟩ = some (.bool ((rd_T36 t148 x29_2).f2.f2)) := (blk_cell BK154.out 4).trans rfl
                                            have hcz76_5 : wc.cell? ⟨gb154, 5, none⟩ = some (.int .i64 ((rd_T36 t148 x29_2).f2.f3)) := (blk_cell BK154.out 5).trans rfl
                                            have hcz76_6 : wc.cell? ⟨gb154, 6, none⟩ = some (.int .u8 ((rd_T36 t148 x29_2).f3)) := (blk_cell BK154.out 6).trans rfl
                                            have hfz76_0 := blk_frozen BK154.out 0
                                            have hfz76_1 := blk_frozen BK154.out 1
                                            have hfz76_2 := blk_frozen BK154.out 2
                                            have hfz76_3 := blk_frozen BK154.out 3
                                            have hfz76_4 := blk_frozen BK154.out 4
                                            have hfz76_5 := blk_frozen BK154.out 5
                                            have hfz76_6 := blk_frozen BK154.out 6
                                            go_wp2
                                            repeat (go_quiet (fail); try go_wp2)
                                            go_roundg kj42
                                            case measure => have := HJ2.out; have := HK2.out; have := HJ17.out; have := HJ42.out; omega
                                            case rel => exact ⟨(x8_2), (x9_2), (((rd_T36 t148 x29_2).f1)), (wrap64 (x29_2 + 1)), (by first | rfl | (simp; done) | (simp [*]; done) | (simp [show ∀ l : List UInt8, (!l.isEmpty) = (l != []) from fun l => by cases l <;> rfl]; done)), (by first | rfl | (simp; done) | (simp [*]; done) | (simp [show ∀ l : List UInt8, (!l.isEmpty) = (l != []) from fun l => by cases l <;> rfl]; done)), (by first | rfl | (simp; done) | (simp [*]; done) | (simp [show ∀ l : List UInt8, (!l.isEmpty) = (l != []) from fun l => by cases l <;> rfl]; done)), (by first | rfl | (simp; done) | (simp [*]; done) | (simp [show ∀ l : List UInt8, (!l.isEmpty) = (l != []) from fun l => by cases l <;> rfl]; done)), H', ⟨by have := HJ2.out; have := HK2.out; have := HJ17.out; have := HJ42.out; omega⟩, ⟨by (with_reducible repeat (first | apply Kd.R_alloc | apply Kd.R_drewN | apply Kd.R_drew)); exact Kd.R_mono HO_27.out (fun _ hk => trivial)⟩, ⟨by repeat (first | (with_reducible first | exact HB.out | apply below_alloc | apply pw_below_drewN | apply below_drew1 | refine below_set ?_ GE154.out) | exact HB.out)⟩⟩
                                        · rw [if_neg c74] at H
                                          have c74b0 : (((rd_T36 t148 x29_2).f0) == 2) = false := beq_eq_false_iff_ne.mpr c74
                                          have c74b1 : (((rd_T36 t148 x29_2).f0) != 2) = true := bne_iff_ne.mpr c74
                                          by_cases c77 : (x9_2 != (((rd_T36 t148 x29_2).f0) == 3)) = true
                                          · rw [if_pos c77] at H
                                            exact absurd H (by simp)
                                          · rw [if_neg c77] at H
                                            have c77b0 : (x9_2 != (((rd_T36 t148 x29_2).f0) == 3)) = false := by simpa using c77
                                            (try (have c77x0 : (!(x9_2 == (((rd_T36 t148 x29_2).f0) == 3))) = false := by (have hx_ := c77b0; revert hx_; generalize (((rd_T36 t148 x29_2).f0) == 3) = q2_; cases x9_2 <;> cases q2_ <;> decide)))
                                            (try (have c77y0 : x9_2 = false := by (have hx_ := c77b0; rw [show (((rd_T36 t148 x29_2).f0) == 3) = false by assumption] at hx_; simpa using hx_)))
                                            (try (have c77b1 : decide (x9_2 = (((rd_T36 t148 x29_2).f0) == 3)) = true := by simpa using c77))
                                            (try (have c77b2 : (x9_2 == (((rd_T36 t148 x29_2).f0) == 3)) = true := by simpa using c77))
                                            clear c77
                                            have H' := Aside0.mk H
                                            clear H
                                            have hcz78_0 : wc.cell? ⟨gb154, 0, none⟩ = some (.int .i64 ((rd_T36 t148 x29_2).f0)) := (blk_cell BK154.out 0).trans rfl
                                            have hcz78_1 : wc.cell? ⟨gb154, 1, none⟩ = some (.int .i64 ((rd_T36 t148 x29_2).f1)) := (blk_cell BK154.out 1).trans rfl
                                            have hcz78_2 : wc.cell? ⟨gb154, 2, none⟩ = some (.int .i64 ((rd_T36 t148 x29_2).f2.f0)) := (blk_cell BK154.out 2).trans rfl
                                            have hcz78_3 : wc.cell? ⟨gb154, 3, none⟩ = some (.int .i64 ((rd_T36 t148 x29_2).f2.f1)) := (blk_cell BK154.out 3).trans rfl
                                            have hcz78_4 : wc.cell? ⟨gb154, 4, none⟩ = some (.bool ((rd_T36 t148 x29_2).f2.f2)) := (blk_cell BK154.out 4).trans rfl
                                            have hcz78_5 : wc.cell? ⟨gb154, 5, none⟩ = some (.int .i64 ((rd_T36 t148 x29_2).f2.f3)) := (blk_cell BK154.out 5).trans rfl
                                            have hcz78_6 : wc.cell? ⟨gb154, 6, none⟩ = some (.int .u8 ((rd_T36 t148 x29_2).f3)) := (blk_cell BK154.out 6).trans rfl
                                            have hfz78_0 := blk_frozen BK154.out 0
                                            have hfz78_1 := blk_frozen BK154.out 1
                                            have hfz78_2 := blk_frozen BK154.out 2
                                            have hfz78_3 := blk_frozen BK154.out 3
                                            have hfz78_4 := blk_frozen BK154.out 4
                                            have hfz78_5 := blk_frozen BK154.out 5
                                            have hfz78_6 := blk_frozen BK154.out 6
                                            go_wp2
                                            repeat (go_quiet (fail); try go_wp2)
                                            go_roundg kj42
                                            case measure => have := HJ2.out; have := HK2.out; have := HJ17.out; have := HJ42.out; omega
                                            case rel => exact ⟨(x8_2), (x9_2), (((rd_T36 t148 x29_2).f1)), (wrap64 (x29_2 + 1)), (by first | rfl | (simp; done) | (simp [*]; done) | (simp [show ∀ l : List UInt8, (!l.isEmpty) = (l != []) from fun l => by cases l <;> rfl]; done)), (by first | rfl | (simp; done) | (simp [*]; done) | (simp [show ∀ l : List UInt8, (!l.isEmpty) = (l != []) from fun l => by cases l <;> rfl]; done)), (by first | rfl | (simp; done) | (simp [*]; done) | (simp [show ∀ l : List UInt8, (!l.isEmpty) = (l != []) from fun l => by cases l <;> rfl]; done)), (by first | rfl | (simp; done) | (simp [*]; done) | (simp [show ∀ l : List UInt8, (!l.isEmpty) = (l != []) from fun l => by cases l <;> rfl]; done)), H', ⟨by have := HJ2.out; have := HK2.out; have := HJ17.out; have := HJ42.out; omega⟩, ⟨by (with_reducible repeat (first | apply Kd.R_alloc | apply Kd.R_drewN | apply Kd.R_drew)); exact Kd.R_mono HO_27.out (fun _ hk => trivial)⟩, ⟨by repeat (first | (with_reducible first | exact HB.out | apply below_alloc | apply pw_below_drewN | apply below_drew1 | refine below_set ?_ GE154.out) | exact HB.out)⟩⟩
                · rw [if_neg c17] at H
                  exact absurd H (by simp)
              · rw [if_neg c16] at H
                exact absurd H (by simp)
            · rw [if_neg c15] at H
              have c15b0 : decide (x29_2 < (t148.length : Int)) = false := decide_eq_false c15
              clear c15
              by_cases c79 : t149 = 0
              · rw [if_pos c79] at H
                have c79b0 : (t149 == 0) = true := beq_iff_eq.mpr c79
                have c79b1 : (t149 != 0) = false := bne_eq_false_iff_eq.mpr c79
                clear c79
                by_cases c80 : x8_2 = 0
                · rw [if_pos c80] at H
                  have c80b0 : (x8_2 == 0) = true := beq_iff_eq.mpr c80
                  have c80b1 : (x8_2 != 0) = false := bne_eq_false_iff_eq.mpr c80
                  clear c80
                  obtain rfl := Option.some.inj H
                  go_wp2
                  repeat (go_quiet (fail); try go_wp2)
                  go_ret
                  exact ⟨by first | rfl | (simp [errW_none, errW_some] <;> rfl) | (simp [*, errW_none, errW_some] <;> rfl), by repeat (first | (with_reducible first | exact HB.out | apply below_alloc | apply pw_below_drewN | apply below_drew1) | exact HB.out)⟩
                · rw [if_neg c80] at H
                  exact absurd H (by simp)
              · rw [if_neg c79] at H
                have c79b0 : (t149 == 0) = false := beq_eq_false_iff_ne.mpr c79
                have c79b1 : (t149 != 0) = true := bne_iff_ne.mpr c79
                obtain rfl := Option.some.inj H
                go_wp2
                repeat (go_quiet (fail); try go_wp2)
                go_ret
                exact ⟨by first | rfl | (simp [errW_none, errW_some] <;> rfl) | (simp [*, errW_none, errW_some] <;> rfl), by repeat (first | (with_reducible first | exact HB.out | apply below_alloc | apply pw_below_drewN | apply below_drew1) | exact HB.out)⟩

/-- THE ONE PURE STATEMENT of gantletlaw09_EventNested: yours. -/
def gantletlaw09_EventNested.Pure : Prop := ∀ (a0 : ByteArray) (a1 : Int), a0.size ≤ 140737488351232 → (Lit.int .i64 a1).wf = true → ∃ k, gantletlaw09_EventNested.f k a0 a1 = some true
theorem gantletlaw09_EventNested.walk (P : gantletlaw09_EventNested.Pure) (a0 : ByteArray) (a1 : Int) (w : World) (w0 : a0.size ≤ 140737488351232) (w1 : (Lit.int .i64 a1).wf = true) :
    Calls Try.prog 5 #[.string a0, .int .i64 a1] w fun e w' => e = .returned (.bool true) ∧ Below w.heap.size w w' := by
  obtain ⟨k, h⟩ := P a0 a1 w0 w1
  refine (gantletlaw09_EventNested.calls k a0 a1 true w h).mono ?_
  rintro e w' ⟨rfl, hd⟩
  exact ⟨rfl, hd⟩

end Go.Proofs.Ytomaajagncjiiaa.PB
