-- Written by a program of this session (print2, a turned print): not PRINTED BY print.sh
import Derived.Test.YthmgabfhibkaiaaPAx0
import Derived.Test.YthmgabfhibkaiaaPAx1
import Derived.Test.YthmgabfhibkaiaaPAx3
import Derived.Test.YthmgabfhibkaiaaPAx8
import Derived.Test.YthmgabfhibkaiaaPAx10
import Derived.Test.YthmgabfhibkaiaaPAx14
namespace Go.Proofs.Ythmgabfhibkaiaa.PA
open Go.RowKit Go.Proofs.YthmgabfhibkaiaaW.PrintWords Go.Proofs.YthmgabfhibkaiaaW.PrintLast Go.Proofs.YthmgabfhibkaiaaW.PrintMore
attribute [local go_sem] max2_int min2_int max_two min_two max_three min_three max_four min_four   -- for this text's walks alone
set_option linter.unusedVariables false
set_option linter.unusedSimpArgs false

attribute [local go_sem high] eqA23
/-! ### gantletlaw07_HeadGets: function 4 -/
def gantletlaw07_HeadGets.j0 : Nat → ByteArray → Int → Bool → Option (Bool)
  | 0, _, _, _ => none
  | k + 1, x0, x1, x17 => if x17 = true then ((gantletlaw07_awake.f).bind fun t192 => (some t192)) else ((head_Get.f k x0 x1).bind fun bt193 => ((gantletref07_Get.f k x0 x1).bind fun bt200 => (if (bt193.1 == bt200.1 && (bt193.2.1 == bt200.2.1 && (bt193.2.2.1 == bt200.2.2.1 && (bt193.2.2.2.1 == bt200.2.2.2.1)))) = true then (if bt193.2.2.2.2.1 = bt200.2.2.2.2.1 then (some (bt193.2.2.2.2.2 == bt200.2.2.2.2.2)) else (none)) else (none))))
def gantletlaw07_HeadGets.f (k : Nat) (a0 : ByteArray) (a1 : Int) : Option (Bool) := (gantletlaw07_awake.f).bind fun t191 => (if t191 = true then (gantletlaw07_HeadGets.j0 k a0 a1 (decide ((a0.size : Int) > 300))) else (gantletlaw07_HeadGets.j0 k a0 a1 true))
theorem gantletlaw07_HeadGets.mono_l : ∀ k, (∀ y0 y1 y2, LeO (gantletlaw07_HeadGets.j0 k y0 y1 y2) (gantletlaw07_HeadGets.j0 (k + 1) y0 y1 y2))
  | 0 => fun _ _ _ r h => by simp [gantletlaw07_HeadGets.j0] at h
  | k + 1 => by
    have ih0 := gantletlaw07_HeadGets.mono_l k
    · intro y0 y1 y2
      unfold gantletlaw07_HeadGets.j0
      repeat' first
      | (with_reducible exact ih0 _ _ _)
      | (with_reducible exact gantletref07_Get.mono _ _ _)
      | (with_reducible exact head_Get.mono _ _ _)
      | (with_reducible exact LeO.refl _)
      | (with_reducible exact LeO.none _)
      | (with_reducible refine LeO.ite ?_ ?_)
      | (with_reducible refine LeO.bind ?_ (fun _ => ?_))
      | exact ih0 _ _ _
      | exact gantletref07_Get.mono _ _ _
      | exact head_Get.mono _ _ _
      | exact LeO.none _
      | refine LeO.ite ?_ ?_
      | refine LeO.bind ?_ (fun _ => ?_)
theorem gantletlaw07_HeadGets.mono : ∀ a0 a1 k, LeO (gantletlaw07_HeadGets.f k a0 a1) (gantletlaw07_HeadGets.f (k + 1) a0 a1) := by
  intro a0 a1 k
  have ih0 := gantletlaw07_HeadGets.mono_l k
  unfold gantletlaw07_HeadGets.f
  repeat' first
      | (with_reducible exact ih0 _ _ _)
      | (with_reducible exact gantletref07_Get.mono _ _ _)
      | (with_reducible exact head_Get.mono _ _ _)
      | (with_reducible exact LeO.refl _)
      | (with_reducible exact LeO.none _)
      | (with_reducible refine LeO.ite ?_ ?_)
      | (with_reducible refine LeO.bind ?_ (fun _ => ?_))
      | exact ih0 _ _ _
      | exact gantletref07_Get.mono _ _ _
      | exact head_Get.mono _ _ _
      | exact LeO.none _
      | refine LeO.ite ?_ ?_
      | refine LeO.bind ?_ (fun _ => ?_)
set_option maxHeartbeats 8000000 in
set_option maxRecDepth 100000 in
theorem gantletlaw07_HeadGets.calls (k : Nat) (a0 : ByteArray) (a1 : Int) (r : Bool) (w : World) (h : gantletlaw07_HeadGets.f k a0 a1 = some r) :
    Calls Try.prog 4 #[.string a0, .int .i64 a1] w fun e w' => e = .returned (.bool r) ∧ Below w.heap.size w w' := by
  have hu23 := Try.underlying23
  have HB := Aside0.mk (Below.refl w.heap.size w)
  have H : ((gantletlaw07_awake.f).bind fun t191 => (if t191 = true then (gantletlaw07_HeadGets.j0 k a0 a1 (decide ((a0.size : Int) > 300))) else (gantletlaw07_HeadGets.j0 k a0 a1 true))) = some r := h
  clear h
  have HC3 := Aside0.mk H
  clear H
  go_enter Try.func4, Try.ntmps4
  go_upto_region 1 with (fail)
  go_cut [17] (fun v17 wc => ∃ (kq : Nat) (x17_2 : Bool), v17 = .bool x17_2 ∧ Aside0 (gantletlaw07_HeadGets.j0 kq a0 a1 x17_2 = some r) ∧ Aside0 (kq ≤ k) ∧ Aside0 (Below w.heap.size w wc))
  case first =>
    have H := HC3.out
    clear HC3
    replace H := Option.bind_eq_some_iff.mp H
    obtain ⟨t191, A40, H⟩ := H
    replace H : (if t191 = true then (gantletlaw07_HeadGets.j0 k a0 a1 (decide ((a0.size : Int) > 300))) else (gantletlaw07_HeadGets.j0 k a0 a1 true)) = some r := H
    have A4 := Aside0.mk A40
    clear A40
    by_cases c5 : t191 = true
    · subst c5
      have H1 : (gantletlaw07_HeadGets.j0 k a0 a1 (decide ((a0.size : Int) > 300))) = some r := by rw [if_pos rfl] at H; exact H
      clear H
      have H := H1
      clear H1
      have H' := Aside0.mk H
      clear H
      go_wp2_with (first | ((with_reducible refine gate_callee (f := 11) rfl ?_); refine goesL_ (some 11) rfl rfl Try.func11 (by kernel_rfl) rfl #[] rfl (by (try simp only [List.map_toArray, List.map_cons, List.map_nil]); first | done | rfl | (simp only [List.length_drop, List.length_take]; rfl)) ?_; (with_reducible refine (gantletlaw07_awake.calls  true _ A4.out).mono ?_); rintro e w6 ⟨rfl, hb⟩; refine ⟨_, rfl, ?_⟩; have n0_ := Aside0.mk (below_step (by repeat (first | (with_reducible first | exact HB.out | apply below_alloc | apply pw_below_drewN | apply below_drew1) | exact HB.out)) hb); clear HB; have HB := n0_; clear n0_; (try clear hb); (try clear hb2); (try clear hk); (try clear hi)))
      go_meet
      case rel => exact ⟨_, (decide ((a0.size : Int) > 300)), (by first | rfl | (simp; done) | (simp [*]; done) | (simp [show ∀ l : List UInt8, (!l.isEmpty) = (l != []) from fun l => by cases l <;> rfl]; done)), H', ⟨by first | omega | exact Nat.le_refl _⟩, ⟨by repeat (first | (with_reducible first | exact HB.out | apply below_alloc | apply pw_below_drewN | apply below_drew1) | exact HB.out)⟩⟩
    · replace c5 := Bool.eq_false_iff.mpr c5
      subst c5
      have H1 : (gantletlaw07_HeadGets.j0 k a0 a1 true) = some r := by rw [if_neg (show ¬ (false = true) by decide)] at H; exact H
      clear H
      have H := H1
      clear H1
      have H' := Aside0.mk H
      clear H
      go_wp2_with (first | ((with_reducible refine gate_callee (f := 11) rfl ?_); refine goesL_ (some 11) rfl rfl Try.func11 (by kernel_rfl) rfl #[] rfl (by (try simp only [List.map_toArray, List.map_cons, List.map_nil]); first | done | rfl | (simp only [List.length_drop, List.length_take]; rfl)) ?_; (with_reducible refine (gantletlaw07_awake.calls  false _ A4.out).mono ?_); rintro e w7 ⟨rfl, hb⟩; refine ⟨_, rfl, ?_⟩; have n0_ := Aside0.mk (below_step (by repeat (first | (with_reducible first | exact HB.out | apply below_alloc | apply pw_below_drewN | apply below_drew1) | exact HB.out)) hb); clear HB; have HB := n0_; clear n0_; (try clear hb); (try clear hb2); (try clear hk); (try clear hi)))
      go_meet
      case rel => exact ⟨_, (true), (by first | rfl | (simp; done) | (simp [*]; done) | (simp [show ∀ l : List UInt8, (!l.isEmpty) = (l != []) from fun l => by cases l <;> rfl]; done)), H', ⟨by first | omega | exact Nat.le_refl _⟩, ⟨by repeat (first | (with_reducible first | exact HB.out | apply below_alloc | apply pw_below_drewN | apply below_drew1) | exact HB.out)⟩⟩
  case rest =>
    clear HC3
    try clear c1
    try clear p2
    try clear c4
    try clear c5
    obtain ⟨kq, x17_2, rfl, HA, HJ2, HB⟩ := hcut
    cases kq with
    | zero => exact absurd HA.out (by simp [gantletlaw07_HeadGets.j0])
    | succ kj2 =>
      have H := HA.out
      clear HA
      simp only [gantletlaw07_HeadGets.j0] at H
      by_cases c8 : x17_2 = true
      · subst c8
        have H1 : ((gantletlaw07_awake.f).bind fun t192 => (some t192)) = some r := by rw [if_pos rfl] at H; exact H
        clear H
        have H := H1
        clear H1
        replace H := Option.bind_eq_some_iff.mp H
        obtain ⟨t192, A90, H⟩ := H
        replace H : (some t192) = some r := H
        have A9 := Aside0.mk A90
        clear A90
        obtain rfl := Option.some.inj H
        go_wp2_with (first | ((with_reducible refine gate_callee (f := 11) rfl ?_); refine goesL_ (some 18) rfl rfl Try.func11 (by kernel_rfl) rfl #[] rfl (by (try simp only [List.map_toArray, List.map_cons, List.map_nil]); first | done | rfl | (simp only [List.length_drop, List.length_take]; rfl)) ?_; (with_reducible refine (gantletlaw07_awake.calls  t192 _ A9.out).mono ?_); rintro e w10 ⟨rfl, hb⟩; refine ⟨_, rfl, ?_⟩; have n0_ := Aside0.mk (below_step (by repeat (first | (with_reducible first | exact HB.out | apply below_alloc | apply pw_below_drewN | apply below_drew1) | exact HB.out)) hb); clear HB; have HB := n0_; clear n0_; (try clear hb); (try clear hb2); (try clear hk); (try clear hi)))
        go_ret
        exact ⟨by first | rfl | (simp [errW_none, errW_some] <;> rfl) | (simp [*, errW_none, errW_some] <;> rfl), by repeat (first | (with_reducible first | exact HB.out | apply below_alloc | apply pw_below_drewN | apply below_drew1) | exact HB.out)⟩
      · replace c8 := Bool.eq_false_iff.mpr c8
        subst c8
        have H1 : ((head_Get.f kj2 a0 a1).bind fun bt193 => ((gantletref07_Get.f kj2 a0 a1).bind fun bt200 => (if (bt193.1 == bt200.1 && (bt193.2.1 == bt200.2.1 && (bt193.2.2.1 == bt200.2.2.1 && (bt193.2.2.2.1 == bt200.2.2.2.1)))) = true then (if bt193.2.2.2.2.1 = bt200.2.2.2.2.1 then (some (bt193.2.2.2.2.2 == bt200.2.2.2.2.2)) else (none)) else (none)))) = some r := by rw [if_neg (show ¬ (false = true) by decide)] at H; exact H
        clear H
        have H := H1
        clear H1
        replace H := Option.bind_eq_some_iff.mp H
        obtain ⟨⟨t193, t194, t195, t196, t197, t198⟩, A110, H⟩ := H
        replace H : ((gantletref07_Get.f kj2 a0 a1).bind fun bt200 => (if (t193 == bt200.1 && (t194 == bt200.2.1 && (t195 == bt200.2.2.1 && (t196 == bt200.2.2.2.1)))) = true then (if t197 = bt200.2.2.2.2.1 then (some (t198 == bt200.2.2.2.2.2)) else (none)) else (none))) = some r := H
        have A11 := Aside0.mk A110
        clear A110
        replace H := Option.bind_eq_some_iff.mp H
        obtain ⟨⟨t200, t201, t202, t203, t204, t205⟩, A120, H⟩ := H
        replace H : (if (t193 == t200 && (t194 == t201 && (t195 == t202 && (t196 == t203)))) = true then (if t197 = t204 then (some (t198 == t205)) else (none)) else (none)) = some r := H
        have A12 := Aside0.mk A120
        clear A120
        by_cases c13 : (t193 == t200 && (t194 == t201 && (t195 == t202 && (t196 == t203)))) = true
        · rw [if_pos c13] at H
          have c13b0 : (t193 == t200 && (t194 == t201 && (t195 == t202 && (t196 == t203)))) = true := c13
          (try (have c13b1 : decide (t193 = t200 && (t194 == t201 && (t195 == t202 && (t196 == t203)))) = true := by simpa using c13))
          (try (have c13b2 : (t193 == t200 && (t194 == t201 && (t195 == t202 && (t196 == t203)))) = true := by simpa using c13))
          clear c13
          by_cases c14 : t197 = t204
          · rw [if_pos c14] at H
            have c14b0 : (t197 == t204) = true := beq_iff_eq.mpr c14
            have c14b1 : (t197 != t204) = false := bne_eq_false_iff_eq.mpr c14
            clear c14
            obtain rfl := Option.some.inj H
            go_wp2_with (first | ((with_reducible refine gate_callee (f := 12) rfl ?_); refine goesL_ (some 22) rfl rfl Try.func12 (by kernel_rfl) rfl #[.string a0, .int .i64 a1] rfl (by (try simp only [List.map_toArray, List.map_cons, List.map_nil]); first | done | rfl | (simp only [List.length_drop, List.length_take]; rfl)) ?_; (with_reducible refine (head_Get.calls kj2 a0 a1 t193 t194 t195 t196 t197 t198 _ A11.out).mono ?_); rintro e w15 ⟨rfl, hb⟩; refine ⟨_, rfl, ?_⟩; have n0_ := Aside0.mk (below_step (by repeat (first | (with_reducible first | exact HB.out | apply below_alloc | apply pw_below_drewN | apply below_drew1) | exact HB.out)) hb); clear HB; have HB := n0_; clear n0_; (try clear hb); (try clear hb2); (try clear hk); (try clear hi)) | ((with_reducible refine gate_dst (N := 5) rfl ?_); (try (refine gate_guard (by rfl) ?_; dsimp only)); refine box_event ?hg (N := 5) ?hd (cs := #[.int .i64 0, .int .i64 0, .bool false, .int .i64 0]) (t := 23) ?hr ?_; (case hd => rfl); (case hg => rfl); (case hr => first | (go_simp; done) | (go_simp; rfl)); intro gb199 hg w16 hbox hb; have n0_ := Aside0.mk (below_step (by repeat (first | (with_reducible first | exact HB.out | apply below_alloc | apply pw_below_drewN | apply below_drew1) | exact HB.out)) hb); have n1_ := Aside0.mk (hbox); have n2_ := Aside0.mk ((by rw [hg]; exact (below_size (by repeat (first | (with_reducible first | exact HB.out | apply below_alloc | apply pw_below_drewN | apply below_drew1) | exact HB.out))) : w.heap.size ≤ gb199)); have n3_ := Aside0.mk ((by rw [hg]; exact (below_size (by repeat (first | (with_reducible first | exact HB.out | apply below_alloc | apply pw_below_drewN | apply below_drew1) | exact HB.out))) : w.heap.size ≤ gb199)); clear HB; have HB := n0_; have BK199 := n1_; have GW199 := n2_; have GE199 := n3_; clear n0_ n1_ n2_ n3_; clear hb hbox hg; have hcz17_0 : w16.cell? ⟨gb199, 0, none⟩ = some (.int .i64 0) := (blk_cell BK199.out 0).trans rfl; have hcz17_1 : w16.cell? ⟨gb199, 1, none⟩ = some (.int .i64 0) := (blk_cell BK199.out 1).trans rfl; have hcz17_2 : w16.cell? ⟨gb199, 2, none⟩ = some (.bool false) := (blk_cell BK199.out 2).trans rfl; have hcz17_3 : w16.cell? ⟨gb199, 3, none⟩ = some (.int .i64 0) := (blk_cell BK199.out 3).trans rfl; have hfz17_0 := blk_frozen BK199.out 0; have hfz17_1 := blk_frozen BK199.out 1; have hfz17_2 := blk_frozen BK199.out 2; have hfz17_3 := blk_frozen BK199.out 3) | ((with_reducible refine gate_callee (f := 13) rfl ?_); refine goesL_ (some 29) rfl rfl Try.func13 (by kernel_rfl) rfl #[.string a0, .int .i64 a1] rfl (by (try simp only [List.map_toArray, List.map_cons, List.map_nil]); first | done | rfl | (simp only [List.length_drop, List.length_take]; rfl)) ?_; (with_reducible refine (gantletref07_Get.calls kj2 a0 a1 t200 t201 t202 t203 t204 t205 _ A12.out).mono ?_); rintro e w18 ⟨rfl, hb⟩; refine ⟨_, rfl, ?_⟩; have n0_ := Aside0.mk (blk_below (g := gb199) (o := .cells #[.int .i64 t193, .int .i64 t194, .bool t195, .int .i64 t196] 23 (0, 0)) (by (with_reducible repeat (first | refine blk_drewN ?_ _ | refine blk_drew ?_ | refine blk_alloc ?_ _)); refine blk_put (cs := #[.int .i64 t193, .int .i64 t194, .bool t195, .int .i64 0]) ?_ 3 _ rfl; (with_reducible repeat (first | refine blk_drewN ?_ _ | refine blk_drew ?_ | refine blk_alloc ?_ _)); refine blk_put (cs := #[.int .i64 t193, .int .i64 t194, .bool false, .int .i64 0]) ?_ 2 _ rfl; (with_reducible repeat (first | refine blk_drewN ?_ _ | refine blk_drew ?_ | refine blk_alloc ?_ _)); refine blk_put (cs := #[.int .i64 t193, .int .i64 0, .bool false, .int .i64 0]) ?_ 1 _ rfl; (with_reducible repeat (first | refine blk_drewN ?_ _ | refine blk_drew ?_ | refine blk_alloc ?_ _)); refine blk_put (cs := #[.int .i64 0, .int .i64 0, .bool false, .int .i64 0]) ?_ 0 _ rfl; (with_reducible repeat (first | refine blk_drewN ?_ _ | refine blk_drew ?_ | refine blk_alloc ?_ _)); exact BK199.out) hb); have n1_ := Aside0.mk (below_step (by repeat (first | (with_reducible first | exact HB.out | apply below_alloc | apply pw_below_drewN | apply below_drew1 | refine below_set ?_ GE199.out) | exact HB.out)) hb); clear BK199; clear HB; have BK199 := n0_; have HB := n1_; clear n0_ n1_; (try clear hb); (try clear hb2); (try clear hk); (try clear hi)) | ((with_reducible refine gate_dst (N := 8) rfl ?_); (try (refine gate_guard (by rfl) ?_; dsimp only)); refine box_event ?hg (N := 8) ?hd (cs := #[.int .i64 0, .int .i64 0, .bool false, .int .i64 0]) (t := 23) ?hr ?_; (case hd => rfl); (case hg => rfl); (case hr => first | (go_simp; done) | (go_simp; rfl)); intro gb206 hg w19 hbox hb; have n0_ := Aside0.mk (blk_below (g := gb199) (o := .cells #[.int .i64 t193, .int .i64 t194, .bool t195, .int .i64 t196] 23 (0, 0)) (by (with_reducible repeat (first | refine blk_drewN ?_ _ | refine blk_drew ?_ | refine blk_alloc ?_ _)); exact BK199.out) hb); have n1_ := Aside0.mk (below_step (by repeat (first | (with_reducible first | exact HB.out | apply below_alloc | apply pw_below_drewN | apply below_drew1 | refine below_set ?_ GE199.out) | exact HB.out)) hb); have n2_ := Aside0.mk (hbox); have n3_ := Aside0.mk ((by rw [hg]; exact (below_size (by repeat (first | (with_reducible first | exact HB.out | apply below_alloc | apply pw_below_drewN | apply below_drew1 | refine below_set ?_ GE199.out) | exact HB.out))) : w.heap.size ≤ gb206)); have n4_ := Aside0.mk ((by rw [hg]; exact (below_size (by repeat (first | (with_reducible first | exact HB.out | apply below_alloc | apply pw_below_drewN | apply below_drew1 | refine below_set ?_ GE199.out) | exact HB.out))) : w.heap.size ≤ gb206)); have n5_ := Aside0.mk ((by rw [hg]; exact Nat.ne_of_lt (blk_lt (g := gb199) (o := .cells #[.int .i64 t193, .int .i64 t194, .bool t195, .int .i64 t196] 23 (0, 0)) (by (with_reducible repeat (first | refine blk_drewN ?_ _ | refine blk_drew ?_ | refine blk_alloc ?_ _)); exact BK199.out)) : gb199 ≠ gb206)); have n6_ := Aside0.mk ((by rw [hg]; exact Nat.ne_of_gt (blk_lt (g := gb199) (o := .cells #[.int .i64 t193, .int .i64 t194, .bool t195, .int .i64 t196] 23 (0, 0)) (by (with_reducible repeat (first | refine blk_drewN ?_ _ | refine blk_drew ?_ | refine blk_alloc ?_ _)); exact BK199.out)) : gb206 ≠ gb199)); clear BK199; clear HB; have BK199 := n0_; have HB := n1_; have BK206 := n2_; have GW206 := n3_; have GE206 := n4_; have NB199_206 := n5_; have NB206_199 := n6_; clear n0_ n1_ n2_ n3_ n4_ n5_ n6_; clear hb hbox hg; have hnb20 := NB206_199.out; have hnc20 := NB199_206.out; have hcz21_0 : w19.cell? ⟨gb206, 0, none⟩ = some (.int .i64 0) := (blk_cell BK206.out 0).trans rfl; have hcz21_1 : w19.cell? ⟨gb206, 1, none⟩ = some (.int .i64 0) := (blk_cell BK206.out 1).trans rfl; have hcz21_2 : w19.cell? ⟨gb206, 2, none⟩ = some (.bool false) := (blk_cell BK206.out 2).trans rfl; have hcz21_3 : w19.cell? ⟨gb206, 3, none⟩ = some (.int .i64 0) := (blk_cell BK206.out 3).trans rfl; have hfz21_0 := blk_frozen BK206.out 0; have hfz21_1 := blk_frozen BK206.out 1; have hfz21_2 := blk_frozen BK206.out 2; have hfz21_3 := blk_frozen BK206.out 3; have hcz22_0 : w19.cell? ⟨gb199, 0, none⟩ = some (.int .i64 t193) := (blk_cell BK199.out 0).trans rfl; have hcz22_1 : w19.cell? ⟨gb199, 1, none⟩ = some (.int .i64 t194) := (blk_cell BK199.out 1).trans rfl; have hcz22_2 : w19.cell? ⟨gb199, 2, none⟩ = some (.bool t195) := (blk_cell BK199.out 2).trans rfl; have hcz22_3 : w19.cell? ⟨gb199, 3, none⟩ = some (.int .i64 t196) := (blk_cell BK199.out 3).trans rfl; have hfz22_0 := blk_frozen BK199.out 0; have hfz22_1 := blk_frozen BK199.out 1; have hfz22_2 := blk_frozen BK199.out 2; have hfz22_3 := blk_frozen BK199.out 3))
            go_ret
            exact ⟨by first | rfl | (simp [errW_none, errW_some] <;> rfl) | (simp [*, errW_none, errW_some] <;> rfl), by repeat (first | (with_reducible first | exact HB.out | apply below_alloc | apply pw_below_drewN | apply below_drew1 | refine below_set ?_ GE199.out | refine below_set ?_ GE206.out) | exact HB.out)⟩
          · rw [if_neg c14] at H
            exact absurd H (by simp)
        · rw [if_neg c13] at H
          exact absurd H (by simp)

/-- THE ONE PURE STATEMENT of gantletlaw07_HeadGets: yours. -/
def gantletlaw07_HeadGets.Pure : Prop := ∀ (a0 : ByteArray) (a1 : Int), a0.size ≤ 140737488351232 → (Lit.int .i64 a1).wf = true → ∃ k, gantletlaw07_HeadGets.f k a0 a1 = some true
theorem gantletlaw07_HeadGets.walk (P : gantletlaw07_HeadGets.Pure) (a0 : ByteArray) (a1 : Int) (w : World) (w0 : a0.size ≤ 140737488351232) (w1 : (Lit.int .i64 a1).wf = true) :
    Calls Try.prog 4 #[.string a0, .int .i64 a1] w fun e w' => e = .returned (.bool true) ∧ Below w.heap.size w w' := by
  obtain ⟨k, h⟩ := P a0 a1 w0 w1
  refine (gantletlaw07_HeadGets.calls k a0 a1 true w h).mono ?_
  rintro e w' ⟨rfl, hd⟩
  exact ⟨rfl, hd⟩

-- NOT PRINTED: function 5 (gantletlaw07_HeadPushed)

/-! ### gantletlaw07_HeadBack: function 6 -/
def gantletlaw07_HeadBack.j0 : Nat → ByteArray → Bool → Int → Int → Bool → Int → Option (Bool)
  | 0, _, _, _, _, _, _ => none
  | k + 1, x1, x16, x212000, x212001, x212002, x212003 => if x16 = true then ((gantletlaw07_awake.f).bind fun t213 => (some t213)) else ((head_Put.f k x212000 x212001 x212002 x212003).bind fun bt214 => (if bt214.2 = 0 then (if x1.size + bt214.1.size ≤ 9223372036854775807 then (if (x1 ++ bt214.1).size + x1.size ≤ 9223372036854775807 then ((head_Get.f k ((x1 ++ bt214.1) ++ x1) (x1.size : Int)).bind fun bt216 => (if (bt216.1 == x212000 && (bt216.2.1 == x212001 && (bt216.2.2.1 == x212002 && (bt216.2.2.2.1 == x212003)))) = true then (if bt216.2.2.2.2.1 = (wrap64 ((x1.size : Int) + (bt214.1.size : Int))) then (if bt216.2.2.2.2.2 = 0 then (some (decide ((bt214.1.size : Int) ≤ 14))) else (none)) else (none)) else (none))) else (none)) else (none)) else (some (bt214.1.toList == ([] : List UInt8)))))
def gantletlaw07_HeadBack.f (k : Nat) (a0_0 : Int) (a0_1 : Int) (a0_2 : Bool) (a0_3 : Int) (a1 : ByteArray) : Option (Bool) := (gantletlaw07_awake.f).bind fun t212 => (if t212 = true then (gantletlaw07_HeadBack.j0 k a1 (decide ((a1.size : Int) > 100)) a0_0 a0_1 a0_2 a0_3) else (gantletlaw07_HeadBack.j0 k a1 true a0_0 a0_1 a0_2 a0_3))
theorem gantletlaw07_HeadBack.mono_l : ∀ k, (∀ y0 y1 y2 y3 y4 y5, LeO (gantletlaw07_HeadBack.j0 k y0 y1 y2 y3 y4 y5) (gantletlaw07_HeadBack.j0 (k + 1) y0 y1 y2 y3 y4 y5))
  | 0 => fun _ _ _ _ _ _ r h => by simp [gantletlaw07_HeadBack.j0] at h
  | k + 1 => by
    have ih0 := gantletlaw07_HeadBack.mono_l k
    · intro y0 y1 y2 y3 y4 y5
      unfold gantletlaw07_HeadBack.j0
      repeat' first
      | (with_reducible exact ih0 _ _ _ _ _ _)
      | (with_reducible exact head_Get.mono _ _ _)
      | (with_reducible exact head_Put.mono _ _ _ _ _)
      | (with_reducible exact LeO.refl _)
      | (with_reducible exact LeO.none _)
      | (with_reducible refine LeO.ite ?_ ?_)
      | (with_reducible refine LeO.bind ?_ (fun _ => ?_))
      | exact ih0 _ _ _ _ _ _
      | exact head_Get.mono _ _ _
      | exact head_Put.mono _ _ _ _ _
      | exact LeO.none _
      | refine LeO.ite ?_ ?_
      | refine LeO.bind ?_ (fun _ => ?_)
theorem gantletlaw07_HeadBack.mono : ∀ a0 a1 a2 a3 a4 k, LeO (gantletlaw07_HeadBack.f k a0 a1 a2 a3 a4) (gantletlaw07_HeadBack.f (k + 1) a0 a1 a2 a3 a4) := by
  intro a0 a1 a2 a3 a4 k
  have ih0 := gantletlaw07_HeadBack.mono_l k
  unfold gantletlaw07_HeadBack.f
  repeat' first
      | (with_reducible exact ih0 _ _ _ _ _ _)
      | (with_reducible exact head_Get.mono _ _ _)
      | (with_reducible exact head_Put.mono _ _ _ _ _)
      | (with_reducible exact LeO.refl _)
      | (with_reducible exact LeO.none _)
      | (with_reducible refine LeO.ite ?_ ?_)
      | (with_reducible refine LeO.bind ?_ (fun _ => ?_))
      | exact ih0 _ _ _ _ _ _
      | exact head_Get.mono _ _ _
      | exact head_Put.mono _ _ _ _ _
      | exact LeO.none _
      | refine LeO.ite ?_ ?_
      | refine LeO.bind ?_ (fun _ => ?_)
set_option maxHeartbeats 8000000 in
set_option maxRecDepth 100000 in
theorem gantletlaw07_HeadBack.calls (k : Nat) (a0_0 : Int) (a0_1 : Int) (a0_2 : Bool) (a0_3 : Int) (a1 : ByteArray) (r : Bool) (w : World) (h : gantletlaw07_HeadBack.f k a0_0 a0_1 a0_2 a0_3 a1 = some r) :
    Calls Try.prog 6 #[.agg #[.int .i64 a0_0, .int .i64 a0_1, .bool a0_2, .int .i64 a0_3], .string a1] w fun e w' => e = .returned (.bool r) ∧ Below w.heap.size w w' := by
  have hu23 := Try.underlying23
  have HB := Aside0.mk (Below.refl w.heap.size w)
  have H : ((gantletlaw07_awake.f).bind fun t212 => (if t212 = true then (gantletlaw07_HeadBack.j0 k a1 (decide ((a1.size : Int) > 100)) a0_0 a0_1 a0_2 a0_3) else (gantletlaw07_HeadBack.j0 k a1 true a0_0 a0_1 a0_2 a0_3))) = some r := h
  clear h
  have HC3 := Aside0.mk H
  clear H
  go_enter Try.func6, Try.ntmps6
  go_upto_region 1 with (first | ((with_reducible refine gate_dst (N := 2) rfl ?_); (try (refine gate_guard (by rfl) ?_; dsimp only)); refine box_event ?hg (N := 2) ?hd (cs := #[.int .i64 a0_0, .int .i64 a0_1, .bool a0_2, .int .i64 a0_3]) (t := 23) ?hr ?_; (case hd => rfl); (case hg => rfl); (case hr => first | (go_simp; done) | (go_simp; rfl)); intro gb211 hg w4 hbox hb; have n0_ := Aside0.mk (below_step (by repeat (first | (with_reducible first | exact HB.out | apply below_alloc | apply pw_below_drewN | apply below_drew1) | exact HB.out)) hb); have n1_ := Aside0.mk (hbox); have n2_ := Aside0.mk ((by rw [hg]; exact (below_size (by repeat (first | (with_reducible first | exact HB.out | apply below_alloc | apply pw_below_drewN | apply below_drew1) | exact HB.out))) : w.heap.size ≤ gb211)); have n3_ := Aside0.mk ((by rw [hg]; exact (below_size (by repeat (first | (with_reducible first | exact HB.out | apply below_alloc | apply pw_below_drewN | apply below_drew1) | exact HB.out))) : w.heap.size ≤ gb211)); clear HB; have HB := n0_; have BK211 := n1_; have GW211 := n2_; have GE211 := n3_; clear n0_ n1_ n2_ n3_; clear hb hbox hg))
  (try simp only [Act.put, List.setIfInBounds_toArray, List.set_cons_zero, List.set_cons_succ])
  go_cut [16] (fun v16 wc => ∃ (kq : Nat) (x16_2 : Bool), v16 = .bool x16_2 ∧ Aside0 (gantletlaw07_HeadBack.j0 kq a1 x16_2 a0_0 a0_1 a0_2 a0_3 = some r) ∧ Aside0 (kq ≤ k) ∧ Aside0 (wc.heap[gb211]? = some (.cells #[.int .i64 a0_0, .int .i64 a0_1, .bool a0_2, .int .i64 a0_3] 23 (0, 0))) ∧ Aside0 (Below w.heap.size w wc))
  case first =>
    have H := HC3.out
    clear HC3
    replace H := Option.bind_eq_some_iff.mp H
    obtain ⟨t212, A50, H⟩ := H
    replace H : (if t212 = true then (gantletlaw07_HeadBack.j0 k a1 (decide ((a1.size : Int) > 100)) a0_0 a0_1 a0_2 a0_3) else (gantletlaw07_HeadBack.j0 k a1 true a0_0 a0_1 a0_2 a0_3)) = some r := H
    have A5 := Aside0.mk A50
    clear A50
    by_cases c6 : t212 = true
    · subst c6
      have H1 : (gantletlaw07_HeadBack.j0 k a1 (decide ((a1.size : Int) > 100)) a0_0 a0_1 a0_2 a0_3) = some r := by rw [if_pos rfl] at H; exact H
      clear H
      have H := H1
      clear H1
      have H' := Aside0.mk H
      clear H
      go_wp2_with (first | ((with_reducible refine gate_callee (f := 11) rfl ?_); refine goesL_ (some 10) rfl rfl Try.func11 (by kernel_rfl) rfl #[] rfl (by (try simp only [List.map_toArray, List.map_cons, List.map_nil]); first | done | rfl | (simp only [List.length_drop, List.length_take]; rfl)) ?_; (with_reducible refine (gantletlaw07_awake.calls  true _ A5.out).mono ?_); rintro e w7 ⟨rfl, hb⟩; refine ⟨_, rfl, ?_⟩; have n0_ := Aside0.mk (blk_below (g := gb211) (o := .cells #[.int .i64 a0_0, .int .i64 a0_1, .bool a0_2, .int .i64 a0_3] 23 (0, 0)) (by (with_reducible repeat (first | refine blk_drewN ?_ _ | refine blk_drew ?_ | refine blk_alloc ?_ _)); exact BK211.out) hb); have n1_ := Aside0.mk (below_step (by repeat (first | (with_reducible first | exact HB.out | apply below_alloc | apply pw_below_drewN | apply below_drew1 | refine below_set ?_ GE211.out) | exact HB.out)) hb); clear BK211; clear HB; have BK211 := n0_; have HB := n1_; clear n0_ n1_; (try clear hb); (try clear hb2); (try clear hk); (try clear hi)))
      go_meet
      case rel => exact ⟨_, (decide ((a1.size : Int) > 100)), (by first | rfl | (simp; done) | (simp [*]; done) | (simp [show ∀ l : List UInt8, (!l.isEmpty) = (l != []) from fun l => by cases l <;> rfl]; done)), H', ⟨by first | omega | exact Nat.le_refl _⟩, ⟨by (with_reducible repeat (first | refine blk_drewN ?_ _ | refine blk_drew ?_ | refine blk_alloc ?_ _)); exact BK211.out⟩, ⟨by repeat (first | (with_reducible first | exact HB.out | apply below_alloc | apply pw_below_drewN | apply below_drew1 | refine below_set ?_ GE211.out) | exact HB.out)⟩⟩
    · replace c6 := Bool.eq_false_iff.mpr c6
      subst c6
      have H1 : (gantletlaw07_HeadBack.j0 k a1 true a0_0 a0_1 a0_2 a0_3) = some r := by rw [if_neg (show ¬ (false = true) by decide)] at H; exact H
      clear H
      have H := H1
      clear H1
      have H' := Aside0.mk H
      clear H
      go_wp2_with (first | ((with_reducible refine gate_callee (f := 11) rfl ?_); refine goesL_ (some 10) rfl rfl Try.func11 (by kernel_rfl) rfl #[] rfl (by (try simp only [List.map_toArray, List.map_cons, List.map_nil]); first | done | rfl | (simp only [List.length_drop, List.length_take]; rfl)) ?_; (with_reducible refine (gantletlaw07_awake.calls  false _ A5.out).mono ?_); rintro e w8 ⟨rfl, hb⟩; refine ⟨_, rfl, ?_⟩; have n0_ := Aside0.mk (blk_below (g := gb211) (o := .cells #[.int .i64 a0_0, .int .i64 a0_1, .bool a0_2, .int .i64 a0_3] 23 (0, 0)) (by (with_reducible repeat (first | refine blk_drewN ?_ _ | refine blk_drew ?_ | refine blk_alloc ?_ _)); exact BK211.out) hb); have n1_ := Aside0.mk (below_step (by repeat (first | (with_reducible first | exact HB.out | apply below_alloc | apply pw_below_drewN | apply below_drew1 | refine below_set ?_ GE211.out) | exact HB.out)) hb); clear BK211; clear HB; have BK211 := n0_; have HB := n1_; clear n0_ n1_; (try clear hb); (try clear hb2); (try clear hk); (try clear hi)))
      go_meet
      case rel => exact ⟨_, (true), (by first | rfl | (simp; done) | (simp [*]; done) | (simp [show ∀ l : List UInt8, (!l.isEmpty) = (l != []) from fun l => by cases l <;> rfl]; done)), H', ⟨by first | omega | exact Nat.le_refl _⟩, ⟨by (with_reducible repeat (first | refine blk_drewN ?_ _ | refine blk_drew ?_ | refine blk_alloc ?_ _)); exact BK211.out⟩, ⟨by repeat (first | (with_reducible first | exact HB.out | apply below_alloc | apply pw_below_drewN | apply below_drew1 | refine below_set ?_ GE211.out) | exact HB.out)⟩⟩
  case rest =>
    clear HC3
    try clear c1
    try clear p2
    try clear c6
    obtain ⟨kq, x16_2, rfl, HA, HJ2, BK211, HB⟩ := hcut
    cases kq with
    | zero => exact absurd HA.out (by simp [gantletlaw07_HeadBack.j0])
    | succ kj2 =>
      have H := HA.out
      clear HA
      simp only [gantletlaw07_HeadBack.j0] at H
      by_cases c9 : x16_2 = true
      · subst c9
        have H1 : ((gantletlaw07_awake.f).bind fun t213 => (some t213)) = some r := by rw [if_pos rfl] at H; exact H
        clear H
        have H := H1
        clear H1
        replace H := Option.bind_eq_some_iff.mp H
        obtain ⟨t213, A100, H⟩ := H
        replace H : (some t213) = some r := H
        have A10 := Aside0.mk A100
        clear A100
        obtain rfl := Option.some.inj H
        go_wp2_with (first | ((with_reducible refine gate_callee (f := 11) rfl ?_); refine goesL_ (some 17) rfl rfl Try.func11 (by kernel_rfl) rfl #[] rfl (by (try simp only [List.map_toArray, List.map_cons, List.map_nil]); first | done | rfl | (simp only [List.length_drop, List.length_take]; rfl)) ?_; (with_reducible refine (gantletlaw07_awake.calls  t213 _ A10.out).mono ?_); rintro e w11 ⟨rfl, hb⟩; refine ⟨_, rfl, ?_⟩; have n0_ := Aside0.mk (blk_below (g := gb211) (o := .cells #[.int .i64 a0_0, .int .i64 a0_1, .bool a0_2, .int .i64 a0_3] 23 (0, 0)) (by (with_reducible repeat (first | refine blk_drewN ?_ _ | refine blk_drew ?_ | refine blk_alloc ?_ _)); exact BK211.out) hb); have n1_ := Aside0.mk (below_step (by repeat (first | (with_reducible first | exact HB.out | apply below_alloc | apply pw_below_drewN | apply below_drew1 | refine below_set ?_ GE211.out) | exact HB.out)) hb); clear BK211; clear HB; have BK211 := n0_; have HB := n1_; clear n0_ n1_; (try clear hb); (try clear hb2); (try clear hk); (try clear hi)))
        go_ret
        exact ⟨by first | rfl | (simp [errW_none, errW_some] <;> rfl) | (simp [*, errW_none, errW_some] <;> rfl), by repeat (first | (with_reducible first | exact HB.out | apply below_alloc | apply pw_below_drewN | apply below_drew1 | refine below_set ?_ GE211.out) | exact HB.out)⟩
      · replace c9 := Bool.eq_false_iff.mpr c9
        subst c9
        have H1 : ((head_Put.f kj2 a0_0 a0_1 a0_2 a0_3).bind fun bt214 => (if bt214.2 = 0 then (if a1.size + bt214.1.size ≤ 9223372036854775807 then (if (a1 ++ bt214.1).size + a1.size ≤ 9223372036854775807 then ((head_Get.f kj2 ((a1 ++ bt214.1) ++ a1) (a1.size : Int)).bind fun bt216 => (if (bt216.1 == a0_0 && (bt216.2.1 == a0_1 && (bt216.2.2.1 == a0_2 && (bt216.2.2.2.1 == a0_3)))) = true then (if bt216.2.2.2.2.1 = (wrap64 ((a1.size : Int) + (bt214.1.size : Int))) then (if bt216.2.2.2.2.2 = 0 then (some (decide ((bt214.1.size : Int) ≤ 14))) else (none)) else (none)) else (none))) else (none)) else (none)) else (some (bt214.1.toList == ([] : List UInt8))))) = some r := by rw [if_neg (show ¬ (false = true) by decide)] at H; exact H
        clear H
        have H := H1
        clear H1
        replace H := Option.bind_eq_some_iff.mp H
        obtain ⟨⟨t214, t215⟩, A120, H⟩ := H
        replace H : (if t215 = 0 then (if a1.size + t214.size ≤ 9223372036854775807 then (if (a1 ++ t214).size + a1.size ≤ 9223372036854775807 then ((head_Get.f kj2 ((a1 ++ t214) ++ a1) (a1.size : Int)).bind fun bt216 => (if (bt216.1 == a0_0 && (bt216.2.1 == a0_1 && (bt216.2.2.1 == a0_2 && (bt216.2.2.2.1 == a0_3)))) = true then (if bt216.2.2.2.2.1 = (wrap64 ((a1.size : Int) + (t214.size : Int))) then (if bt216.2.2.2.2.2 = 0 then (some (decide ((t214.size : Int) ≤ 14))) else (none)) else (none)) else (none))) else (none)) else (none)) else (some (t214.toList == ([] : List UInt8)))) = some r := H
        have A12 := Aside0.mk A120
        clear A120
        by_cases c13 : t215 = 0
        · rw [if_pos c13] at H
          have c13b0 : (t215 == 0) = true := beq_iff_eq.mpr c13
          have c13b1 : (t215 != 0) = false := bne_eq_false_iff_eq.mpr c13
          clear c13
          by_cases c14 : a1.size + t214.size ≤ 9223372036854775807
          · rw [if_pos c14] at H
            have c14b0 := eq_true c14
            have c14b1 : decide (a1.size + t214.size ≤ 9223372036854775807) = true := decide_eq_true c14
            try have c14b2 : (9223372036854775807 < a1.size + t214.size) = False := eq_false (Nat.not_lt.2 c14)
            by_cases c15 : (a1 ++ t214).size + a1.size ≤ 9223372036854775807
            · rw [if_pos c15] at H
              have c15b0 := eq_true c15
              have c15b1 : decide ((a1 ++ t214).size + a1.size ≤ 9223372036854775807) = true := decide_eq_true c15
              try have c15b2 : (9223372036854775807 < (a1 ++ t214).size + a1.size) = False := eq_false (Nat.not_lt.2 c15)
              replace H := Option.bind_eq_some_iff.mp H
              obtain ⟨⟨t216, t217, t218, t219, t220, t221⟩, A160, H⟩ := H
              replace H : (if (t216 == a0_0 && (t217 == a0_1 && (t218 == a0_2 && (t219 == a0_3)))) = true then (if t220 = (wrap64 ((a1.size : Int) + (t214.size : Int))) then (if t221 = 0 then (some (decide ((t214.size : Int) ≤ 14))) else (none)) else (none)) else (none)) = some r := H
              have A16 := Aside0.mk A160
              clear A160
              by_cases c17 : (t216 == a0_0 && (t217 == a0_1 && (t218 == a0_2 && (t219 == a0_3)))) = true
              · rw [if_pos c17] at H
                have c17b0 : (t216 == a0_0 && (t217 == a0_1 && (t218 == a0_2 && (t219 == a0_3)))) = true := c17
                (try (have c17b1 : decide (t216 = a0_0 && (t217 == a0_1 && (t218 == a0_2 && (t219 == a0_3)))) = true := by simpa using c17))
                (try (have c17b2 : (t216 == a0_0 && (t217 == a0_1 && (t218 == a0_2 && (t219 == a0_3)))) = true := by simpa using c17))
                clear c17
                by_cases c18 : t220 = (wrap64 ((a1.size : Int) + (t214.size : Int)))
                · rw [if_pos c18] at H
                  have c18b0 : (t220 == (wrap64 ((a1.size : Int) + (t214.size : Int)))) = true := beq_iff_eq.mpr c18
                  have c18b1 : (t220 != (wrap64 ((a1.size : Int) + (t214.size : Int)))) = false := bne_eq_false_iff_eq.mpr c18
                  (try (have c18w0 : (t220 == (((a1.size : Int) + (t214.size : Int)))) = true := by (have hw_ : wrap64 ((a1.size : Int) + (t214.size : Int)) = ((a1.size : Int) + (t214.size : Int)) := by (unfold wrap64; omega)); have hx_ := c18b0; rw [hw_] at hx_; exact hx_))
                  (try (have c18w1 : (t220 != (((a1.size : Int) + (t214.size : Int)))) = false := by (have hw_ : wrap64 ((a1.size : Int) + (t214.size : Int)) = ((a1.size : Int) + (t214.size : Int)) := by (unfold wrap64; omega)); have hx_ := c18b1; rw [hw_] at hx_; exact hx_))
                  clear c18
                  by_cases c19 : t221 = 0
                  · rw [if_pos c19] at H
                    have c19b0 : (t221 == 0) = true := beq_iff_eq.mpr c19
                    have c19b1 : (t221 != 0) = false := bne_eq_false_iff_eq.mpr c19
                    clear c19
                    obtain rfl := Option.some.inj H
                    have hcz20_0 : wc.cell? ⟨gb211, 0, none⟩ = some (.int .i64 a0_0) := (blk_cell BK211.out 0).trans rfl
                    have hcz20_1 : wc.cell? ⟨gb211, 1, none⟩ = some (.int .i64 a0_1) := (blk_cell BK211.out 1).trans rfl
                    have hcz20_2 : wc.cell? ⟨gb211, 2, none⟩ = some (.bool a0_2) := (blk_cell BK211.out 2).trans rfl
                    have hcz20_3 : wc.cell? ⟨gb211, 3, none⟩ = some (.int .i64 a0_3) := (blk_cell BK211.out 3).trans rfl
                    have hfz20_0 := blk_frozen BK211.out 0
                    have hfz20_1 := blk_frozen BK211.out 1
                    have hfz20_2 := blk_frozen BK211.out 2
                    have hfz20_3 := blk_frozen BK211.out 3
                    go_wp2_with (first | ((with_reducible refine gate_callee (f := 9) rfl ?_); refine goesL_ (some 20) rfl rfl Try.func9 (by kernel_rfl) rfl #[.agg #[.int .i64 a0_0, .int .i64 a0_1, .bool a0_2, .int .i64 a0_3]] rfl (by (try simp only [List.map_toArray, List.map_cons, List.map_nil]); first | done | rfl | (simp only [List.length_drop, List.length_take]; rfl)) ?_; (with_reducible refine (head_Put.calls kj2 a0_0 a0_1 a0_2 a0_3 t214 t215 _ A12.out).mono ?_); rintro e w21 ⟨rfl, hb⟩; refine ⟨_, rfl, ?_⟩; have n0_ := Aside0.mk (blk_below (g := gb211) (o := .cells #[.int .i64 a0_0, .int .i64 a0_1, .bool a0_2, .int .i64 a0_3] 23 (0, 0)) (by (with_reducible repeat (first | refine blk_drewN ?_ _ | refine blk_drew ?_ | refine blk_alloc ?_ _)); exact BK211.out) hb); have n1_ := Aside0.mk (below_step (by repeat (first | (with_reducible first | exact HB.out | apply below_alloc | apply pw_below_drewN | apply below_drew1 | refine below_set ?_ GE211.out) | exact HB.out)) hb); clear BK211; clear HB; have BK211 := n0_; have HB := n1_; clear n0_ n1_; (try clear hb); (try clear hb2); (try clear hk); (try clear hi)) | ((with_reducible refine gate_callee (f := 12) rfl ?_); refine goesL_ (some 35) rfl rfl Try.func12 (by kernel_rfl) rfl #[.string ((a1 ++ t214) ++ a1), .int .i64 (a1.size : Int)] rfl (by (try simp only [List.map_toArray, List.map_cons, List.map_nil]); first | done | rfl | (simp only [List.length_drop, List.length_take]; rfl)) ?_; (with_reducible refine (head_Get.calls kj2 ((a1 ++ t214) ++ a1) (a1.size : Int) t216 t217 t218 t219 t220 t221 _ A16.out).mono ?_); rintro e w22 ⟨rfl, hb⟩; refine ⟨_, rfl, ?_⟩; have n0_ := Aside0.mk (blk_below (g := gb211) (o := .cells #[.int .i64 a0_0, .int .i64 a0_1, .bool a0_2, .int .i64 a0_3] 23 (0, 0)) (by (with_reducible repeat (first | refine blk_drewN ?_ _ | refine blk_drew ?_ | refine blk_alloc ?_ _)); exact BK211.out) hb); have n1_ := Aside0.mk (below_step (by repeat (first | (with_reducible first | exact HB.out | apply below_alloc | apply pw_below_drewN | apply below_drew1 | refine below_set ?_ GE211.out) | exact HB.out)) hb); clear BK211; clear HB; have BK211 := n0_; have HB := n1_; clear n0_ n1_; (try clear hb); (try clear hb2); (try clear hk); (try clear hi)) | ((with_reducible refine gate_dst (N := 7) rfl ?_); (try (refine gate_guard (by rfl) ?_; dsimp only)); refine box_event ?hg (N := 7) ?hd (cs := #[.int .i64 0, .int .i64 0, .bool false, .int .i64 0]) (t := 23) ?hr ?_; (case hd => rfl); (case hg => rfl); (case hr => first | (go_simp; done) | (go_simp; rfl)); intro gb222 hg w23 hbox hb; have n0_ := Aside0.mk (blk_below (g := gb211) (o := .cells #[.int .i64 a0_0, .int .i64 a0_1, .bool a0_2, .int .i64 a0_3] 23 (0, 0)) (by (with_reducible repeat (first | refine blk_drewN ?_ _ | refine blk_drew ?_ | refine blk_alloc ?_ _)); exact BK211.out) hb); have n1_ := Aside0.mk (below_step (by repeat (first | (with_reducible first | exact HB.out | apply below_alloc | apply pw_below_drewN | apply below_drew1 | refine below_set ?_ GE211.out) | exact HB.out)) hb); have n2_ := Aside0.mk (hbox); have n3_ := Aside0.mk ((by rw [hg]; exact (below_size (by repeat (first | (with_reducible first | exact HB.out | apply below_alloc | apply pw_below_drewN | apply below_drew1 | refine below_set ?_ GE211.out) | exact HB.out))) : w.heap.size ≤ gb222)); have n4_ := Aside0.mk ((by rw [hg]; exact (below_size (by repeat (first | (with_reducible first | exact HB.out | apply below_alloc | apply pw_below_drewN | apply below_drew1 | refine below_set ?_ GE211.out) | exact HB.out))) : w.heap.size ≤ gb222)); have n5_ := Aside0.mk ((by rw [hg]; exact Nat.ne_of_lt (blk_lt (g := gb211) (o := .cells #[.int .i64 a0_0, .int .i64 a0_1, .bool a0_2, .int .i64 a0_3] 23 (0, 0)) (by (with_reducible repeat (first | refine blk_drewN ?_ _ | refine blk_drew ?_ | refine blk_alloc ?_ _)); exact BK211.out)) : gb211 ≠ gb222)); have n6_ := Aside0.mk ((by rw [hg]; exact Nat.ne_of_gt (blk_lt (g := gb211) (o := .cells #[.int .i64 a0_0, .int .i64 a0_1, .bool a0_2, .int .i64 a0_3] 23 (0, 0)) (by (with_reducible repeat (first | refine blk_drewN ?_ _ | refine blk_drew ?_ | refine blk_alloc ?_ _)); exact BK211.out)) : gb222 ≠ gb211)); clear BK211; clear HB; have BK211 := n0_; have HB := n1_; have BK222 := n2_; have GW222 := n3_; have GE222 := n4_; have NB211_222 := n5_; have NB222_211 := n6_; clear n0_ n1_ n2_ n3_ n4_ n5_ n6_; clear hb hbox hg; have hnb24 := NB222_211.out; have hnc24 := NB211_222.out; have hcz25_0 : w23.cell? ⟨gb222, 0, none⟩ = some (.int .i64 0) := (blk_cell BK222.out 0).trans rfl; have hcz25_1 : w23.cell? ⟨gb222, 1, none⟩ = some (.int .i64 0) := (blk_cell BK222.out 1).trans rfl; have hcz25_2 : w23.cell? ⟨gb222, 2, none⟩ = some (.bool false) := (blk_cell BK222.out 2).trans rfl; have hcz25_3 : w23.cell? ⟨gb222, 3, none⟩ = some (.int .i64 0) := (blk_cell BK222.out 3).trans rfl; have hfz25_0 := blk_frozen BK222.out 0; have hfz25_1 := blk_frozen BK222.out 1; have hfz25_2 := blk_frozen BK222.out 2; have hfz25_3 := blk_frozen BK222.out 3; have hcz26_0 : w23.cell? ⟨gb211, 0, none⟩ = some (.int .i64 a0_0) := (blk_cell BK211.out 0).trans rfl; have hcz26_1 : w23.cell? ⟨gb211, 1, none⟩ = some (.int .i64 a0_1) := (blk_cell BK211.out 1).trans rfl; have hcz26_2 : w23.cell? ⟨gb211, 2, none⟩ = some (.bool a0_2) := (blk_cell BK211.out 2).trans rfl; have hcz26_3 : w23.cell? ⟨gb211, 3, none⟩ = some (.int .i64 a0_3) := (blk_cell BK211.out 3).trans rfl; have hfz26_0 := blk_frozen BK211.out 0; have hfz26_1 := blk_frozen BK211.out 1; have hfz26_2 := blk_frozen BK211.out 2; have hfz26_3 := blk_frozen BK211.out 3))
                    go_ret
                    exact ⟨by first | rfl | (simp [errW_none, errW_some] <;> rfl) | (simp [*, errW_none, errW_some] <;> rfl), by repeat (first | (with_reducible first | exact HB.out | apply below_alloc | apply pw_below_drewN | apply below_drew1 | refine below_set ?_ GE211.out | refine below_set ?_ GE222.out) | exact HB.out)⟩
                  · rw [if_neg c19] at H
                    exact absurd H (by simp)
                · rw [if_neg c18] at H
                  exact absurd H (by simp)
              · rw [if_neg c17] at H
                exact absurd H (by simp)
            · rw [if_neg c15] at H
              exact absurd H (by simp)
          · rw [if_neg c14] at H
            exact absurd H (by simp)
        · rw [if_neg c13] at H
          have c13b0 : (t215 == 0) = false := beq_eq_false_iff_ne.mpr c13
          have c13b1 : (t215 != 0) = true := bne_iff_ne.mpr c13
          obtain rfl := Option.some.inj H
          have hcz27_0 : wc.cell? ⟨gb211, 0, none⟩ = some (.int .i64 a0_0) := (blk_cell BK211.out 0).trans rfl
          have hcz27_1 : wc.cell? ⟨gb211, 1, none⟩ = some (.int .i64 a0_1) := (blk_cell BK211.out 1).trans rfl
          have hcz27_2 : wc.cell? ⟨gb211, 2, none⟩ = some (.bool a0_2) := (blk_cell BK211.out 2).trans rfl
          have hcz27_3 : wc.cell? ⟨gb211, 3, none⟩ = some (.int .i64 a0_3) := (blk_cell BK211.out 3).trans rfl
          have hfz27_0 := blk_frozen BK211.out 0
          have hfz27_1 := blk_frozen BK211.out 1
          have hfz27_2 := blk_frozen BK211.out 2
          have hfz27_3 := blk_frozen BK211.out 3
          go_wp2_with (first | ((with_reducible refine gate_callee (f := 9) rfl ?_); refine goesL_ (some 20) rfl rfl Try.func9 (by kernel_rfl) rfl #[.agg #[.int .i64 a0_0, .int .i64 a0_1, .bool a0_2, .int .i64 a0_3]] rfl (by (try simp only [List.map_toArray, List.map_cons, List.map_nil]); first | done | rfl | (simp only [List.length_drop, List.length_take]; rfl)) ?_; (with_reducible refine (head_Put.calls kj2 a0_0 a0_1 a0_2 a0_3 t214 t215 _ A12.out).mono ?_); rintro e w28 ⟨rfl, hb⟩; refine ⟨_, rfl, ?_⟩; have n0_ := Aside0.mk (blk_below (g := gb211) (o := .cells #[.int .i64 a0_0, .int .i64 a0_1, .bool a0_2, .int .i64 a0_3] 23 (0, 0)) (by (with_reducible repeat (first | refine blk_drewN ?_ _ | refine blk_drew ?_ | refine blk_alloc ?_ _)); exact BK211.out) hb); have n1_ := Aside0.mk (below_step (by repeat (first | (with_reducible first | exact HB.out | apply below_alloc | apply pw_below_drewN | apply below_drew1 | refine below_set ?_ GE211.out) | exact HB.out)) hb); clear BK211; clear HB; have BK211 := n0_; have HB := n1_; clear n0_ n1_; (try clear hb); (try clear hb2); (try clear hk); (try clear hi)))
          go_ret
          exact ⟨by first | rfl | (simp [errW_none, errW_some] <;> rfl) | (simp [*, errW_none, errW_some] <;> rfl), by repeat (first | (with_reducible first | exact HB.out | apply below_alloc | apply pw_below_drewN | apply below_drew1 | refine below_set ?_ GE211.out) | exact HB.out)⟩

end Go.Proofs.Ythmgabfhibkaiaa.PA
