-- Written by a program of this session (print2, a turned print): not PRINTED BY print.sh
import Derived.Test.YtghkfoaiieajhaaPAx0
import Derived.Test.YtghkfoaiieajhaaPAx1
import Derived.Test.YtghkfoaiieajhaaPAx2
import Derived.Test.YtghkfoaiieajhaaPAx3
namespace Go.Proofs.Ytghkfoaiieajhaa.PA
open Go.RowKit Go.Proofs.YtghkfoaiieajhaaW.PrintWords Go.Proofs.YtghkfoaiieajhaaW.PrintLast Go.Proofs.YtghkfoaiieajhaaW.PrintMore
attribute [local go_sem] max2_int min2_int max_two min_two max_three min_three max_four min_four   -- for this text's walks alone
set_option linter.unusedVariables false
set_option linter.unusedSimpArgs false

/-! ### gantletlaw10_awake: function 9 -/
def gantletlaw10_awake.f (k : Nat)  : Option (Bool) := (number_Start.f k 2 2).bind fun bt130 => ((number_State_Push.f k bt130.1 bt130.2.1 bt130.2.2.1 bt130.2.2.2.1 0).bind fun bt136 => ((number_State_Push.f k bt136.1 bt136.2.1 bt136.2.2.1 bt136.2.2.2.1 127).bind fun bt142 => ((number_State_Push.f k bt136.1 bt136.2.1 bt136.2.2.1 bt136.2.2.2.1 128).bind fun bt148 => ((number_Start.f k 5 1).bind fun bt154 => ((number_Get.f k (⟨#[255, 127]⟩ : ByteArray)).bind fun bt160 => (if bt130.2.2.2.2 = true then (if bt136.2.2.2.2 = true then (if bt142.2.2.2.2 = true then (none) else (if bt148.2.2.2.2 = true then (if bt154.2.2.2.2 = true then (none) else ((number_Put.f k 128).bind fun t162 => (if t162.toList = ([0, 128] : List UInt8) then ((number_Put.f k (-129)).bind fun t163 => (if t163.toList = ([255, 127] : List UInt8) then (if bt160.1 = (-129) then (some bt160.2) else (none)) else (none))) else (none)))) else (none))) else (none)) else (none)))))))
theorem gantletlaw10_awake.mono : ∀ k, LeO (gantletlaw10_awake.f k ) (gantletlaw10_awake.f (k + 1) ) := by
  intro  k
  unfold gantletlaw10_awake.f
  repeat' first
      | (with_reducible exact number_Get.mono _ _)
      | (with_reducible exact number_Put.mono _ _)
      | (with_reducible exact number_Start.mono _ _ _)
      | (with_reducible exact number_State_Push.mono _ _ _ _ _ _)
      | (with_reducible exact LeO.refl _)
      | (with_reducible exact LeO.none _)
      | (with_reducible refine LeO.ite ?_ ?_)
      | (with_reducible refine LeO.bind ?_ (fun _ => ?_))
      | exact number_Get.mono _ _
      | exact number_Put.mono _ _
      | exact number_Start.mono _ _ _
      | exact number_State_Push.mono _ _ _ _ _ _
      | exact LeO.none _
      | refine LeO.ite ?_ ?_
      | refine LeO.bind ?_ (fun _ => ?_)
set_option maxHeartbeats 8000000 in
set_option maxRecDepth 100000 in
theorem gantletlaw10_awake.calls (k : Nat)  (r : Bool) (w : World) (h : gantletlaw10_awake.f k  = some r) :
    Calls Try.prog 9 #[] w fun e w' => e = .returned (.bool r) ∧ Below w.heap.size w w' := by
  have hu25 := Try.underlying25
  have HB := Aside0.mk (Below.refl w.heap.size w)
  have H : ((number_Start.f k 2 2).bind fun bt130 => ((number_State_Push.f k bt130.1 bt130.2.1 bt130.2.2.1 bt130.2.2.2.1 0).bind fun bt136 => ((number_State_Push.f k bt136.1 bt136.2.1 bt136.2.2.1 bt136.2.2.2.1 127).bind fun bt142 => ((number_State_Push.f k bt136.1 bt136.2.1 bt136.2.2.1 bt136.2.2.2.1 128).bind fun bt148 => ((number_Start.f k 5 1).bind fun bt154 => ((number_Get.f k (⟨#[255, 127]⟩ : ByteArray)).bind fun bt160 => (if bt130.2.2.2.2 = true then (if bt136.2.2.2.2 = true then (if bt142.2.2.2.2 = true then (none) else (if bt148.2.2.2.2 = true then (if bt154.2.2.2.2 = true then (none) else ((number_Put.f k 128).bind fun t162 => (if t162.toList = ([0, 128] : List UInt8) then ((number_Put.f k (-129)).bind fun t163 => (if t163.toList = ([255, 127] : List UInt8) then (if bt160.1 = (-129) then (some bt160.2) else (none)) else (none))) else (none)))) else (none))) else (none)) else (none)))))))) = some r := h
  clear h
  replace H := Option.bind_eq_some_iff.mp H
  obtain ⟨⟨t130, t131, t132, t133, t134⟩, A10, H⟩ := H
  replace H : ((number_State_Push.f k t130 t131 t132 t133 0).bind fun bt136 => ((number_State_Push.f k bt136.1 bt136.2.1 bt136.2.2.1 bt136.2.2.2.1 127).bind fun bt142 => ((number_State_Push.f k bt136.1 bt136.2.1 bt136.2.2.1 bt136.2.2.2.1 128).bind fun bt148 => ((number_Start.f k 5 1).bind fun bt154 => ((number_Get.f k (⟨#[255, 127]⟩ : ByteArray)).bind fun bt160 => (if t134 = true then (if bt136.2.2.2.2 = true then (if bt142.2.2.2.2 = true then (none) else (if bt148.2.2.2.2 = true then (if bt154.2.2.2.2 = true then (none) else ((number_Put.f k 128).bind fun t162 => (if t162.toList = ([0, 128] : List UInt8) then ((number_Put.f k (-129)).bind fun t163 => (if t163.toList = ([255, 127] : List UInt8) then (if bt160.1 = (-129) then (some bt160.2) else (none)) else (none))) else (none)))) else (none))) else (none)) else (none))))))) = some r := H
  have A1 := Aside0.mk A10
  clear A10
  replace H := Option.bind_eq_some_iff.mp H
  obtain ⟨⟨t136, t137, t138, t139, t140⟩, A20, H⟩ := H
  replace H : ((number_State_Push.f k t136 t137 t138 t139 127).bind fun bt142 => ((number_State_Push.f k t136 t137 t138 t139 128).bind fun bt148 => ((number_Start.f k 5 1).bind fun bt154 => ((number_Get.f k (⟨#[255, 127]⟩ : ByteArray)).bind fun bt160 => (if t134 = true then (if t140 = true then (if bt142.2.2.2.2 = true then (none) else (if bt148.2.2.2.2 = true then (if bt154.2.2.2.2 = true then (none) else ((number_Put.f k 128).bind fun t162 => (if t162.toList = ([0, 128] : List UInt8) then ((number_Put.f k (-129)).bind fun t163 => (if t163.toList = ([255, 127] : List UInt8) then (if bt160.1 = (-129) then (some bt160.2) else (none)) else (none))) else (none)))) else (none))) else (none)) else (none)))))) = some r := H
  have A2 := Aside0.mk A20
  clear A20
  replace H := Option.bind_eq_some_iff.mp H
  obtain ⟨⟨t142, t143, t144, t145, t146⟩, A30, H⟩ := H
  replace H : ((number_State_Push.f k t136 t137 t138 t139 128).bind fun bt148 => ((number_Start.f k 5 1).bind fun bt154 => ((number_Get.f k (⟨#[255, 127]⟩ : ByteArray)).bind fun bt160 => (if t134 = true then (if t140 = true then (if t146 = true then (none) else (if bt148.2.2.2.2 = true then (if bt154.2.2.2.2 = true then (none) else ((number_Put.f k 128).bind fun t162 => (if t162.toList = ([0, 128] : List UInt8) then ((number_Put.f k (-129)).bind fun t163 => (if t163.toList = ([255, 127] : List UInt8) then (if bt160.1 = (-129) then (some bt160.2) else (none)) else (none))) else (none)))) else (none))) else (none)) else (none))))) = some r := H
  have A3 := Aside0.mk A30
  clear A30
  replace H := Option.bind_eq_some_iff.mp H
  obtain ⟨⟨t148, t149, t150, t151, t152⟩, A40, H⟩ := H
  replace H : ((number_Start.f k 5 1).bind fun bt154 => ((number_Get.f k (⟨#[255, 127]⟩ : ByteArray)).bind fun bt160 => (if t134 = true then (if t140 = true then (if t146 = true then (none) else (if t152 = true then (if bt154.2.2.2.2 = true then (none) else ((number_Put.f k 128).bind fun t162 => (if t162.toList = ([0, 128] : List UInt8) then ((number_Put.f k (-129)).bind fun t163 => (if t163.toList = ([255, 127] : List UInt8) then (if bt160.1 = (-129) then (some bt160.2) else (none)) else (none))) else (none)))) else (none))) else (none)) else (none)))) = some r := H
  have A4 := Aside0.mk A40
  clear A40
  replace H := Option.bind_eq_some_iff.mp H
  obtain ⟨⟨t154, t155, t156, t157, t158⟩, A50, H⟩ := H
  replace H : ((number_Get.f k (⟨#[255, 127]⟩ : ByteArray)).bind fun bt160 => (if t134 = true then (if t140 = true then (if t146 = true then (none) else (if t152 = true then (if t158 = true then (none) else ((number_Put.f k 128).bind fun t162 => (if t162.toList = ([0, 128] : List UInt8) then ((number_Put.f k (-129)).bind fun t163 => (if t163.toList = ([255, 127] : List UInt8) then (if bt160.1 = (-129) then (some bt160.2) else (none)) else (none))) else (none)))) else (none))) else (none)) else (none))) = some r := H
  have A5 := Aside0.mk A50
  clear A50
  replace H := Option.bind_eq_some_iff.mp H
  obtain ⟨⟨t160, t161⟩, A60, H⟩ := H
  replace H : (if t134 = true then (if t140 = true then (if t146 = true then (none) else (if t152 = true then (if t158 = true then (none) else ((number_Put.f k 128).bind fun t162 => (if t162.toList = ([0, 128] : List UInt8) then ((number_Put.f k (-129)).bind fun t163 => (if t163.toList = ([255, 127] : List UInt8) then (if t160 = (-129) then (some t161) else (none)) else (none))) else (none)))) else (none))) else (none)) else (none)) = some r := H
  have A6 := Aside0.mk A60
  clear A60
  by_cases c7 : t134 = true
  · subst c7
    have H1 : (if t140 = true then (if t146 = true then (none) else (if t152 = true then (if t158 = true then (none) else ((number_Put.f k 128).bind fun t162 => (if t162.toList = ([0, 128] : List UInt8) then ((number_Put.f k (-129)).bind fun t163 => (if t163.toList = ([255, 127] : List UInt8) then (if t160 = (-129) then (some t161) else (none)) else (none))) else (none)))) else (none))) else (none)) = some r := by rw [if_pos rfl] at H; exact H
    clear H
    have H := H1
    clear H1
    by_cases c8 : t140 = true
    · subst c8
      have H1 : (if t146 = true then (none) else (if t152 = true then (if t158 = true then (none) else ((number_Put.f k 128).bind fun t162 => (if t162.toList = ([0, 128] : List UInt8) then ((number_Put.f k (-129)).bind fun t163 => (if t163.toList = ([255, 127] : List UInt8) then (if t160 = (-129) then (some t161) else (none)) else (none))) else (none)))) else (none))) = some r := by rw [if_pos rfl] at H; exact H
      clear H
      have H := H1
      clear H1
      by_cases c9 : t146 = true
      · subst c9
        have H1 : (none) = some r := by rw [if_pos rfl] at H; exact H
        clear H
        have H := H1
        clear H1
        exact absurd H (by simp)
      · replace c9 := Bool.eq_false_iff.mpr c9
        subst c9
        have H1 : (if t152 = true then (if t158 = true then (none) else ((number_Put.f k 128).bind fun t162 => (if t162.toList = ([0, 128] : List UInt8) then ((number_Put.f k (-129)).bind fun t163 => (if t163.toList = ([255, 127] : List UInt8) then (if t160 = (-129) then (some t161) else (none)) else (none))) else (none)))) else (none)) = some r := by rw [if_neg (show ¬ (false = true) by decide)] at H; exact H
        clear H
        have H := H1
        clear H1
        by_cases c10 : t152 = true
        · subst c10
          have H1 : (if t158 = true then (none) else ((number_Put.f k 128).bind fun t162 => (if t162.toList = ([0, 128] : List UInt8) then ((number_Put.f k (-129)).bind fun t163 => (if t163.toList = ([255, 127] : List UInt8) then (if t160 = (-129) then (some t161) else (none)) else (none))) else (none)))) = some r := by rw [if_pos rfl] at H; exact H
          clear H
          have H := H1
          clear H1
          by_cases c11 : t158 = true
          · subst c11
            have H1 : (none) = some r := by rw [if_pos rfl] at H; exact H
            clear H
            have H := H1
            clear H1
            exact absurd H (by simp)
          · replace c11 := Bool.eq_false_iff.mpr c11
            subst c11
            have H1 : ((number_Put.f k 128).bind fun t162 => (if t162.toList = ([0, 128] : List UInt8) then ((number_Put.f k (-129)).bind fun t163 => (if t163.toList = ([255, 127] : List UInt8) then (if t160 = (-129) then (some t161) else (none)) else (none))) else (none))) = some r := by rw [if_neg (show ¬ (false = true) by decide)] at H; exact H
            clear H
            have H := H1
            clear H1
            replace H := Option.bind_eq_some_iff.mp H
            obtain ⟨t162, A120, H⟩ := H
            replace H : (if t162.toList = ([0, 128] : List UInt8) then ((number_Put.f k (-129)).bind fun t163 => (if t163.toList = ([255, 127] : List UInt8) then (if t160 = (-129) then (some t161) else (none)) else (none))) else (none)) = some r := H
            have A12 := Aside0.mk A120
            clear A120
            by_cases c13 : t162.toList = ([0, 128] : List UInt8)
            · rw [if_pos c13] at H
              have c13b0 : (t162.toList == ([0, 128] : List UInt8)) = true := beq_iff_eq.mpr c13
              have c13b1 : (t162.toList != ([0, 128] : List UInt8)) = false := bne_eq_false_iff_eq.mpr c13
              clear c13
              replace H := Option.bind_eq_some_iff.mp H
              obtain ⟨t163, A140, H⟩ := H
              replace H : (if t163.toList = ([255, 127] : List UInt8) then (if t160 = (-129) then (some t161) else (none)) else (none)) = some r := H
              have A14 := Aside0.mk A140
              clear A140
              by_cases c15 : t163.toList = ([255, 127] : List UInt8)
              · rw [if_pos c15] at H
                have c15b0 : (t163.toList == ([255, 127] : List UInt8)) = true := beq_iff_eq.mpr c15
                have c15b1 : (t163.toList != ([255, 127] : List UInt8)) = false := bne_eq_false_iff_eq.mpr c15
                clear c15
                by_cases c16 : t160 = (-129)
                · rw [if_pos c16] at H
                  have c16b0 : (t160 == (-129)) = true := beq_iff_eq.mpr c16
                  have c16b1 : (t160 != (-129)) = false := bne_eq_false_iff_eq.mpr c16
                  clear c16
                  obtain rfl := Option.some.inj H
                  go_enter Try.func9, Try.ntmps9
                  go_wp2_with (first | ((with_reducible refine gate_callee (f := 11) rfl ?_); refine goesL_ (some 14) rfl rfl Try.func11 (by kernel_rfl) rfl #[.int .i64 2, .int .i64 2] rfl (by (try simp only [List.map_toArray, List.map_cons, List.map_nil]); first | done | rfl | (simp only [List.length_drop, List.length_take]; rfl)) ?_; (with_reducible refine (number_Start.calls k 2 2 t130 t131 t132 t133 true _ A1.out).mono ?_); rintro e w17 ⟨rfl, hb⟩; refine ⟨_, rfl, ?_⟩; have n0_ := Aside0.mk (below_step (by repeat (first | (with_reducible first | exact HB.out | apply below_alloc | apply pw_below_drewN | apply below_drew1) | exact HB.out)) hb); clear HB; have HB := n0_; clear n0_; (try clear hb); (try clear hb2); (try clear hk); (try clear hi)) | ((with_reducible refine gate_dst (N := 1) rfl ?_); refine box_event ?hg (N := 1) ?hd (cs := #[.int .i64 0, .int .i64 0, .int .i64 0, .int .u8 0]) (t := 25) ?hr ?_; (case hd => rfl); (case hg => rfl); (case hr => first | (go_simp; done) | (go_simp; rfl)); intro gb135 hg w18 hbox hb; have n0_ := Aside0.mk (below_step (by repeat (first | (with_reducible first | exact HB.out | apply below_alloc | apply pw_below_drewN | apply below_drew1) | exact HB.out)) hb); have n1_ := Aside0.mk (hbox); have n2_ := Aside0.mk ((by rw [hg]; exact (below_size (by repeat (first | (with_reducible first | exact HB.out | apply below_alloc | apply pw_below_drewN | apply below_drew1) | exact HB.out))) : w.heap.size ≤ gb135)); have n3_ := Aside0.mk ((by rw [hg]; exact (below_size (by repeat (first | (with_reducible first | exact HB.out | apply below_alloc | apply pw_below_drewN | apply below_drew1) | exact HB.out))) : w.heap.size ≤ gb135)); clear HB; have HB := n0_; have BK135 := n1_; have GW135 := n2_; have GE135 := n3_; clear n0_ n1_ n2_ n3_; clear hb hbox hg; have hcz19_0 : w18.cell? ⟨gb135, 0, none⟩ = some (.int .i64 0) := (blk_cell BK135.out 0).trans rfl; have hcz19_1 : w18.cell? ⟨gb135, 1, none⟩ = some (.int .i64 0) := (blk_cell BK135.out 1).trans rfl; have hcz19_2 : w18.cell? ⟨gb135, 2, none⟩ = some (.int .i64 0) := (blk_cell BK135.out 2).trans rfl; have hcz19_3 : w18.cell? ⟨gb135, 3, none⟩ = some (.int .u8 0) := (blk_cell BK135.out 3).trans rfl; have hfz19_0 := blk_frozen BK135.out 0; have hfz19_1 := blk_frozen BK135.out 1; have hfz19_2 := blk_frozen BK135.out 2; have hfz19_3 := blk_frozen BK135.out 3) | ((with_reducible refine gate_callee (f := 12) rfl ?_); refine goesL_ (some 19) rfl rfl Try.func12 (by kernel_rfl) rfl #[.agg #[.int .i64 t130, .int .i64 t131, .int .i64 t132, .int .u8 t133], .int .u8 0] rfl (by (try simp only [List.map_toArray, List.map_cons, List.map_nil]); first | done | rfl | (simp only [List.length_drop, List.length_take]; rfl)) ?_; (with_reducible refine (number_State_Push.calls k t130 t131 t132 t133 0 t136 t137 t138 t139 true _ A2.out).mono ?_); rintro e w20 ⟨rfl, hb⟩; refine ⟨_, rfl, ?_⟩; have n0_ := Aside0.mk (blk_below (g := gb135) (o := .cells #[.int .i64 t130, .int .i64 t131, .int .i64 t132, .int .u8 t133] 25 (0, 0)) (by (with_reducible repeat (first | refine blk_drewN ?_ _ | refine blk_drew ?_ | refine blk_alloc ?_ _)); refine blk_put (cs := #[.int .i64 t130, .int .i64 t131, .int .i64 t132, .int .u8 0]) ?_ 3 _ rfl; (with_reducible repeat (first | refine blk_drewN ?_ _ | refine blk_drew ?_ | refine blk_alloc ?_ _)); refine blk_put (cs := #[.int .i64 t130, .int .i64 t131, .int .i64 0, .int .u8 0]) ?_ 2 _ rfl; (with_reducible repeat (first | refine blk_drewN ?_ _ | refine blk_drew ?_ | refine blk_alloc ?_ _)); refine blk_put (cs := #[.int .i64 t130, .int .i64 0, .int .i64 0, .int .u8 0]) ?_ 1 _ rfl; (with_reducible repeat (first | refine blk_drewN ?_ _ | refine blk_drew ?_ | refine blk_alloc ?_ _)); refine blk_put (cs := #[.int .i64 0, .int .i64 0, .int .i64 0, .int .u8 0]) ?_ 0 _ rfl; (with_reducible repeat (first | refine blk_drewN ?_ _ | refine blk_drew ?_ | refine blk_alloc ?_ _)); exact BK135.out) hb); have n1_ := Aside0.mk (below_step (by repeat (first | (with_reducible first | exact HB.out | apply below_alloc | apply pw_below_drewN | apply below_drew1 | refine below_set ?_ GE135.out) | exact HB.out)) hb); clear BK135; clear HB; have BK135 := n0_; have HB := n1_; clear n0_ n1_; (try clear hb); (try clear hb2); (try clear hk); (try clear hi)) | ((with_reducible refine gate_dst (N := 3) rfl ?_); refine box_event ?hg (N := 3) ?hd (cs := #[.int .i64 0, .int .i64 0, .int .i64 0, .int .u8 0]) (t := 25) ?hr ?_; (case hd => rfl); (case hg => rfl); (case hr => first | (go_simp; done) | (go_simp; rfl)); intro gb141 hg w21 hbox hb; have n0_ := Aside0.mk (blk_below (g := gb135) (o := .cells #[.int .i64 t130, .int .i64 t131, .int .i64 t132, .int .u8 t133] 25 (0, 0)) (by (with_reducible repeat (first | refine blk_drewN ?_ _ | refine blk_drew ?_ | refine blk_alloc ?_ _)); exact BK135.out) hb); have n1_ := Aside0.mk (below_step (by repeat (first | (with_reducible first | exact HB.out | apply below_alloc | apply pw_below_drewN | apply below_drew1 | refine below_set ?_ GE135.out) | exact HB.out)) hb); have n2_ := Aside0.mk (hbox); have n3_ := Aside0.mk ((by rw [hg]; exact (below_size (by repeat (first | (with_reducible first | exact HB.out | apply below_alloc | apply pw_below_drewN | apply below_drew1 | refine below_set ?_ GE135.out) | exact HB.out))) : w.heap.size ≤ gb141)); have n4_ := Aside0.mk ((by rw [hg]; exact (below_size (by repeat (first | (with_reducible first | exact HB.out | apply below_alloc | apply pw_below_drewN | apply below_drew1 | refine below_set ?_ GE135.out) | exact HB.out))) : w.heap.size ≤ gb141)); have n5_ := Aside0.mk ((by rw [hg]; exact Nat.ne_of_lt (blk_lt (g := gb135) (o := .cells #[.int .i64 t130, .int .i64 t131, .int .i64 t132, .int .u8 t133] 25 (0, 0)) (by (with_reducible repeat (first | refine blk_drewN ?_ _ | refine blk_drew ?_ | refine blk_alloc ?_ _)); exact BK135.out)) : gb135 ≠ gb141)); have n6_ := Aside0.mk ((by rw [hg]; exact Nat.ne_of_gt (blk_lt (g := gb135) (o := .cells #[.int .i64 t130, .int .i64 t131, .int .i64 t132, .int .u8 t133] 25 (0, 0)) (by (with_reducible repeat (first | refine blk_drewN ?_ _ | refine blk_drew ?_ | refine blk_alloc ?_ _)); exact BK135.out)) : gb141 ≠ gb135)); clear BK135; clear HB; have BK135 := n0_; have HB := n1_; have BK141 := n2_; have GW141 := n3_; have GE141 := n4_; have NB135_141 := n5_; have NB141_135 := n6_; clear n0_ n1_ n2_ n3_ n4_ n5_ n6_; clear hb hbox hg; have hnb22 := NB141_135.out; have hnc22 := NB135_141.out; have hcz23_0 : w21.cell? ⟨gb141, 0, none⟩ = some (.int .i64 0) := (blk_cell BK141.out 0).trans rfl; have hcz23_1 : w21.cell? ⟨gb141, 1, none⟩ = some (.int .i64 0) := (blk_cell BK141.out 1).trans rfl; have hcz23_2 : w21.cell? ⟨gb141, 2, none⟩ = some (.int .i64 0) := (blk_cell BK141.out 2).trans rfl; have hcz23_3 : w21.cell? ⟨gb141, 3, none⟩ = some (.int .u8 0) := (blk_cell BK141.out 3).trans rfl; have hfz23_0 := blk_frozen BK141.out 0; have hfz23_1 := blk_frozen BK141.out 1; have hfz23_2 := blk_frozen BK141.out 2; have hfz23_3 := blk_frozen BK141.out 3) | ((with_reducible refine gate_callee (f := 12) rfl ?_); refine goesL_ (some 24) rfl rfl Try.func12 (by kernel_rfl) rfl #[.agg #[.int .i64 t136, .int .i64 t137, .int .i64 t138, .int .u8 t139], .int .u8 127] rfl (by (try simp only [List.map_toArray, List.map_cons, List.map_nil]); first | done | rfl | (simp only [List.length_drop, List.length_take]; rfl)) ?_; (with_reducible refine (number_State_Push.calls k t136 t137 t138 t139 127 t142 t143 t144 t145 false _ A3.out).mono ?_); rintro e w24 ⟨rfl, hb⟩; refine ⟨_, rfl, ?_⟩; have n0_ := Aside0.mk (blk_below (g := gb135) (o := .cells #[.int .i64 t130, .int .i64 t131, .int .i64 t132, .int .u8 t133] 25 (0, 0)) (by (with_reducible repeat (first | refine blk_drewN ?_ _ | refine blk_drew ?_ | refine blk_alloc ?_ _)); refine blk_far ?_ NB135_141.out _; (with_reducible repeat (first | refine blk_drewN ?_ _ | refine blk_drew ?_ | refine blk_alloc ?_ _)); refine blk_far ?_ NB135_141.out _; (with_reducible repeat (first | refine blk_drewN ?_ _ | refine blk_drew ?_ | refine blk_alloc ?_ _)); refine blk_far ?_ NB135_141.out _; (with_reducible repeat (first | refine blk_drewN ?_ _ | refine blk_drew ?_ | refine blk_alloc ?_ _)); refine blk_far ?_ NB135_141.out _; (with_reducible repeat (first | refine blk_drewN ?_ _ | refine blk_drew ?_ | refine blk_alloc ?_ _)); exact BK135.out) hb); have n1_ := Aside0.mk (blk_below (g := gb141) (o := .cells #[.int .i64 t136, .int .i64 t137, .int .i64 t138, .int .u8 t139] 25 (0, 0)) (by (with_reducible repeat (first | refine blk_drewN ?_ _ | refine blk_drew ?_ | refine blk_alloc ?_ _)); refine blk_put (cs := #[.int .i64 t136, .int .i64 t137, .int .i64 t138, .int .u8 0]) ?_ 3 _ rfl; (with_reducible repeat (first | refine blk_drewN ?_ _ | refine blk_drew ?_ | refine blk_alloc ?_ _)); refine blk_put (cs := #[.int .i64 t136, .int .i64 t137, .int .i64 0, .int .u8 0]) ?_ 2 _ rfl; (with_reducible repeat (first | refine blk_drewN ?_ _ | refine blk_drew ?_ | refine blk_alloc ?_ _)); refine blk_put (cs := #[.int .i64 t136, .int .i64 0, .int .i64 0, .int .u8 0]) ?_ 1 _ rfl; (with_reducible repeat (first | refine blk_drewN ?_ _ | refine blk_drew ?_ | refine blk_alloc ?_ _)); refine blk_put (cs := #[.int .i64 0, .int .i64 0, .int .i64 0, .int .u8 0]) ?_ 0 _ rfl; (with_reducible repeat (first | refine blk_drewN ?_ _ | refine blk_drew ?_ | refine blk_alloc ?_ _)); exact BK141.out) hb); have n2_ := Aside0.mk (below_step (by repeat (first | (with_reducible first | exact HB.out | apply below_alloc | apply pw_below_drewN | apply below_drew1 | refine below_set ?_ GE135.out | refine below_set ?_ GE141.out) | exact HB.out)) hb); clear BK135; clear BK141; clear HB; have BK135 := n0_; have BK141 := n1_; have HB := n2_; clear n0_ n1_ n2_; (try clear hb); (try clear hb2); (try clear hk); (try clear hi)) | ((with_reducible refine gate_dst (N := 5) rfl ?_); refine box_event ?hg (N := 5) ?hd (cs := #[.int .i64 0, .int .i64 0, .int .i64 0, .int .u8 0]) (t := 25) ?hr ?_; (case hd => rfl); (case hg => rfl); (case hr => first | (go_simp; done) | (go_simp; rfl)); intro gb147 hg w25 hbox hb; have n0_ := Aside0.mk (blk_below (g := gb135) (o := .cells #[.int .i64 t130, .int .i64 t131, .int .i64 t132, .int .u8 t133] 25 (0, 0)) (by (with_reducible repeat (first | refine blk_drewN ?_ _ | refine blk_drew ?_ | refine blk_alloc ?_ _)); exact BK135.out) hb); have n1_ := Aside0.mk (blk_below (g := gb141) (o := .cells #[.int .i64 t136, .int .i64 t137, .int .i64 t138, .int .u8 t139] 25 (0, 0)) (by (with_reducible repeat (first | refine blk_drewN ?_ _ | refine blk_drew ?_ | refine blk_alloc ?_ _)); exact BK141.out) hb); have n2_ := Aside0.mk (below_step (by repeat (first | (with_reducible first | exact HB.out | apply below_alloc | apply pw_below_drewN | apply below_drew1 | refine below_set ?_ GE135.out | refine below_set ?_ GE141.out) | exact HB.out)) hb); have n3_ := Aside0.mk (hbox); have n4_ := Aside0.mk ((by rw [hg]; exact (below_size (by repeat (first | (with_reducible first | exact HB.out | apply below_alloc | apply pw_below_drewN | apply below_drew1 | refine below_set ?_ GE135.out | refine below_set ?_ GE141.out) | exact HB.out))) : w.heap.size ≤ gb147)); have n5_ := Aside0.mk ((by rw [hg]; exact (below_size (by repeat (first | (with_reducible first | exact HB.out | apply below_alloc | apply pw_below_drewN | apply below_drew1 | refine below_set ?_ GE135.out | refine below_set ?_ GE141.out) | exact HB.out))) : w.heap.size ≤ gb147)); have n6_ := Aside0.mk ((by rw [hg]; exact Nat.ne_of_lt (blk_lt (g := gb135) (o := .cells #[.int .i64 t130, .int .i64 t131, .int .i64 t132, .int .u8 t133] 25 (0, 0)) (by (with_reducible repeat (first | refine blk_drewN ?_ _ | refine blk_drew ?_ | refine blk_alloc ?_ _)); exact BK135.out)) : gb135 ≠ gb147)); have n7_ := Aside0.mk ((by rw [hg]; exact Nat.ne_of_gt (blk_lt (g := gb135) (o := .cells #[.int .i64 t130, .int .i64 t131, .int .i64 t132, .int .u8 t133] 25 (0, 0)) (by (with_reducible repeat (first | refine blk_drewN ?_ _ | refine blk_drew ?_ | refine blk_alloc ?_ _)); exact BK135.out)) : gb147 ≠ gb135)); have n8_ := Aside0.mk ((by rw [hg]; exact Nat.ne_of_lt (blk_lt (g := gb141) (o := .cells #[.int .i64 t136, .int .i64 t137, .int .i64 t138, .int .u8 t139] 25 (0, 0)) (by (with_reducible repeat (first | refine blk_drewN ?_ _ | refine blk_drew ?_ | refine blk_alloc ?_ _)); exact BK141.out)) : gb141 ≠ gb147)); have n9_ := Aside0.mk ((by rw [hg]; exact Nat.ne_of_gt (blk_lt (g := gb141) (o := .cells #[.int .i64 t136, .int .i64 t137, .int .i64 t138, .int .u8 t139] 25 (0, 0)) (by (with_reducible repeat (first | refine blk_drewN ?_ _ | refine blk_drew ?_ | refine blk_alloc ?_ _)); exact BK141.out)) : gb147 ≠ gb141)); clear BK135; clear BK141; clear HB; have BK135 := n0_; have BK141 := n1_; have HB := n2_; have BK147 := n3_; have GW147 := n4_; have GE147 := n5_; have NB135_147 := n6_; have NB147_135 := n7_; have NB141_147 := n8_; have NB147_141 := n9_; clear n0_ n1_ n2_ n3_ n4_ n5_ n6_ n7_ n8_ n9_; clear hb hbox hg; have hnb26 := NB147_135.out; have hnc26 := NB135_147.out; have hnb27 := NB147_141.out; have hnc27 := NB141_147.out; have hcz28_0 : w25.cell? ⟨gb147, 0, none⟩ = some (.int .i64 0) := (blk_cell BK147.out 0).trans rfl; have hcz28_1 : w25.cell? ⟨gb147, 1, none⟩ = some (.int .i64 0) := (blk_cell BK147.out 1).trans rfl; have hcz28_2 : w25.cell? ⟨gb147, 2, none⟩ = some (.int .i64 0) := (blk_cell BK147.out 2).trans rfl; have hcz28_3 : w25.cell? ⟨gb147, 3, none⟩ = some (.int .u8 0) := (blk_cell BK147.out 3).trans rfl; have hfz28_0 := blk_frozen BK147.out 0; have hfz28_1 := blk_frozen BK147.out 1; have hfz28_2 := blk_frozen BK147.out 2; have hfz28_3 := blk_frozen BK147.out 3; have hcz29_0 : w25.cell? ⟨gb141, 0, none⟩ = some (.int .i64 t136) := (blk_cell BK141.out 0).trans rfl; have hcz29_1 : w25.cell? ⟨gb141, 1, none⟩ = some (.int .i64 t137) := (blk_cell BK141.out 1).trans rfl; have hcz29_2 : w25.cell? ⟨gb141, 2, none⟩ = some (.int .i64 t138) := (blk_cell BK141.out 2).trans rfl; have hcz29_3 : w25.cell? ⟨gb141, 3, none⟩ = some (.int .u8 t139) := (blk_cell BK141.out 3).trans rfl; have hfz29_0 := blk_frozen BK141.out 0; have hfz29_1 := blk_frozen BK141.out 1; have hfz29_2 := blk_frozen BK141.out 2; have hfz29_3 := blk_frozen BK141.out 3) | ((with_reducible refine gate_callee (f := 12) rfl ?_); refine goesL_ (some 29) rfl rfl Try.func12 (by kernel_rfl) rfl #[.agg #[.int .i64 t136, .int .i64 t137, .int .i64 t138, .int .u8 t139], .int .u8 128] rfl (by (try simp only [List.map_toArray, List.map_cons, List.map_nil]); first | done | rfl | (simp only [List.length_drop, List.length_take]; rfl)) ?_; (with_reducible refine (number_State_Push.calls k t136 t137 t138 t139 128 t148 t149 t150 t151 true _ A4.out).mono ?_); rintro e w30 ⟨rfl, hb⟩; refine ⟨_, rfl, ?_⟩; have n0_ := Aside0.mk (blk_below (g := gb135) (o := .cells #[.int .i64 t130, .int .i64 t131, .int .i64 t132, .int .u8 t133] 25 (0, 0)) (by (with_reducible repeat (first | refine blk_drewN ?_ _ | refine blk_drew ?_ | refine blk_alloc ?_ _)); refine blk_far ?_ NB135_147.out _; (with_reducible repeat (first | refine blk_drewN ?_ _ | refine blk_drew ?_ | refine blk_alloc ?_ _)); refine blk_far ?_ NB135_147.out _; (with_reducible repeat (first | refine blk_drewN ?_ _ | refine blk_drew ?_ | refine blk_alloc ?_ _)); refine blk_far ?_ NB135_147.out _; (with_reducible repeat (first | refine blk_drewN ?_ _ | refine blk_drew ?_ | refine blk_alloc ?_ _)); refine blk_far ?_ NB135_147.out _; (with_reducible repeat (first | refine blk_drewN ?_ _ | refine blk_drew ?_ | refine blk_alloc ?_ _)); exact BK135.out) hb); have n1_ := Aside0.mk (blk_below (g := gb141) (o := .cells #[.int .i64 t136, .int .i64 t137, .int .i64 t138, .int .u8 t139] 25 (0, 0)) (by (with_reducible repeat (first | refine blk_drewN ?_ _ | refine blk_drew ?_ | refine blk_alloc ?_ _)); refine blk_far ?_ NB141_147.out _; (with_reducible repeat (first | refine blk_drewN ?_ _ | refine blk_drew ?_ | refine blk_alloc ?_ _)); refine blk_far ?_ NB141_147.out _; (with_reducible repeat (first | refine blk_drewN ?_ _ | refine blk_drew ?_ | refine blk_alloc ?_ _)); refine blk_far ?_ NB141_147.out _; (with_reducible repeat (first | refine blk_drewN ?_ _ | refine blk_drew ?_ | refine blk_alloc ?_ _)); refine blk_far ?_ NB141_147.out _; (with_reducible repeat (first | refine blk_drewN ?_ _ | refine blk_drew ?_ | refine blk_alloc ?_ _)); exact BK141.out) hb); have n2_ := Aside0.mk (blk_below (g := gb147) (o := .cells #[.int .i64 t142, .int .i64 t143, .int .i64 t144, .int .u8 t145] 25 (0, 0)) (by (with_reducible repeat (first | refine blk_drewN ?_ _ | refine blk_drew ?_ | refine blk_alloc ?_ _)); refine blk_put (cs := #[.int .i64 t142, .int .i64 t143, .int .i64 t144, .int .u8 0]) ?_ 3 _ rfl; (with_reducible repeat (first | refine blk_drewN ?_ _ | refine blk_drew ?_ | refine blk_alloc ?_ _)); refine blk_put (cs := #[.int .i64 t142, .int .i64 t143, .int .i64 0, .int .u8 0]) ?_ 2 _ rfl; (with_reducible repeat (first | refine blk_drewN ?_ _ | refine blk_drew ?_ | refine blk_alloc ?_ _)); refine blk_put (cs := #[.int .i64 t142, .int .i64 0, .int .i64 0, .int .u8 0]) ?_ 1 _ rfl; (with_reducible repeat (first | refine blk_drewN ?_ _ | refine blk_drew ?_ | refine blk_alloc ?_ _)); refine blk_put (cs := #[.int .i64 0, .int .i64 0, .int .i64 0, .int .u8 0]) ?_ 0 _ rfl; (with_reducible repeat (first | refine blk_drewN ?_ _ | refine blk_drew ?_ | refine blk_alloc ?_ _)); exact BK147.out) hb); have n3_ := Aside0.mk (below_step (by repeat (first | (with_reducible first | exact HB.out | apply below_alloc | apply pw_below_drewN | apply below_drew1 | refine below_set ?_ GE135.out | refine below_set ?_ GE141.out | refine below_set ?_ GE147.out) | exact HB.out)) hb); clear BK135; clear BK141; clear BK147; clear HB; have BK135 := n0_; have BK141 := n1_; have BK147 := n2_; have HB := n3_; clear n0_ n1_ n2_ n3_; (try clear hb); (try clear hb2); (try clear hk); (try clear hi)) | ((with_reducible refine gate_dst (N := 7) rfl ?_); refine box_event ?hg (N := 7) ?hd (cs := #[.int .i64 0, .int .i64 0, .int .i64 0, .int .u8 0]) (t := 25) ?hr ?_; (case hd => rfl); (case hg => rfl); (case hr => first | (go_simp; done) | (go_simp; rfl)); intro gb153 hg w31 hbox hb; have n0_ := Aside0.mk (blk_below (g := gb135) (o := .cells #[.int .i64 t130, .int .i64 t131, .int .i64 t132, .int .u8 t133] 25 (0, 0)) (by (with_reducible repeat (first | refine blk_drewN ?_ _ | refine blk_drew ?_ | refine blk_alloc ?_ _)); exact BK135.out) hb); have n1_ := Aside0.mk (blk_below (g := gb141) (o := .cells #[.int .i64 t136, .int .i64 t137, .int .i64 t138, .int .u8 t139] 25 (0, 0)) (by (with_reducible repeat (first | refine blk_drewN ?_ _ | refine blk_drew ?_ | refine blk_alloc ?_ _)); exact BK141.out) hb); have n2_ := Aside0.mk (blk_below (g := gb147) (o := .cells #[.int .i64 t142, .int .i64 t143, .int .i64 t144, .int .u8 t145] 25 (0, 0)) (by (with_reducible repeat (first | refine blk_drewN ?_ _ | refine blk_drew ?_ | refine blk_alloc ?_ _)); exact BK147.out) hb); have n3_ := Aside0.mk (below_step (by repeat (first | (with_reducible first | exact HB.out | apply below_alloc | apply pw_below_drewN | apply below_drew1 | refine below_set ?_ GE135.out | refine below_set ?_ GE141.out | refine below_set ?_ GE147.out) | exact HB.out)) hb); have n4_ := Aside0.mk (hbox); have n5_ := Aside0.mk ((by rw [hg]; exact (below_size (by repeat (first | (with_reducible first | exact HB.out | apply below_alloc | apply pw_below_drewN | apply below_drew1 | refine below_set ?_ GE135.out | refine below_set ?_ GE141.out | refine below_set ?_ GE147.out) | exact HB.out))) : w.heap.size ≤ gb153)); have n6_ := Aside0.mk ((by rw [hg]; exact (below_size (by repeat (first | (with_reducible first | exact HB.out | apply below_alloc | apply pw_below_drewN | apply below_drew1 | refine below_set ?_ GE135.out | refine below_set ?_ GE141.out | refine below_set ?_ GE147.out) | exact HB.out))) : w.heap.size ≤ gb153)); have n7_ := Aside0.mk ((by rw [hg]; exact Nat.ne_of_lt (blk_lt (g := gb135) (o := .cells #[.int .i64 t130, .int .i64 t131, .int .i64 t132, .int .u8 t133] 25 (0, 0)) (by (with_reducible repeat (first | refine blk_drewN ?_ _ | refine blk_drew ?_ | refine blk_alloc ?_ _)); exact BK135.out)) : gb135 ≠ gb153)); have n8_ := Aside0.mk ((by rw [hg]; exact Nat.ne_of_gt (blk_lt (g := gb135) (o := .cells #[.int .i64 t130, .int .i64 t131, .int .i64 t132, .int .u8 t133] 25 (0, 0)) (by (with_reducible repeat (first | refine blk_drewN ?_ _ | refine blk_drew ?_ | refine blk_alloc ?_ _)); exact BK135.out)) : gb153 ≠ gb135)); have n9_ := Aside0.mk ((by rw [hg]; exact Nat.ne_of_lt (blk_lt (g := gb141) (o := .cells #[.int .i64 t136, .int .i64 t137, .int .i64 t138, .int .u8 t139] 25 (0, 0)) (by (with_reducible repeat (first | refine blk_drewN ?_ _ | refine blk_drew ?_ | refine blk_alloc ?_ _)); exact BK141.out)) : gb141 ≠ gb153)); have n10_ := Aside0.mk ((by rw [hg]; exact Nat.ne_of_gt (blk_lt (g := gb141) (o := .cells #[.int .i64 t136, .int .i64 t137, .int .i64 t138, .int .u8 t139] 25 (0, 0)) (by (with_reducible repeat (first | refine blk_drewN ?_ _ | refine blk_drew ?_ | refine blk_alloc ?_ _)); exact BK141.out)) : gb153 ≠ gb141)); have n11_ := Aside0.mk ((by rw [hg]; exact Nat.ne_of_lt (blk_lt (g := gb147) (o := .cells #[.int .i64 t142, .int .i64 t143, .int .i64 t144, .int .u8 t145] 25 (0, 0)) (by (with_reducible repeat (first | refine blk_drewN ?_ _ | refine blk_drew ?_ | refine blk_alloc ?_ _)); exact BK147.out)) : gb147 ≠ gb153)); have n12_ := Aside0.mk ((by rw [hg]; exact Nat.ne_of_gt (blk_lt (g := gb147) (o := .cells #[.int .i64 t142, .int .i64 t143, .int .i64 t144, .int .u8 t145] 25 (0, 0)) (by (with_reducible repeat (first | refine blk_drewN ?_ _ | refine blk_drew ?_ | refine blk_alloc ?_ _)); exact BK147.out)) : gb153 ≠ gb147)); clear BK135; clear BK141; clear BK147; clear HB; have BK135 := n0_; have BK141 := n1_; have BK147 := n2_; have HB := n3_; have BK153 := n4_; have GW153 := n5_; have GE153 := n6_; have NB135_153 := n7_; have NB153_135 := n8_; have NB141_153 := n9_; have NB153_141 := n10_; have NB147_153 := n11_; have NB153_147 := n12_; clear n0_ n1_ n2_ n3_ n4_ n5_ n6_ n7_ n8_ n9_ n10_ n11_ n12_; clear hb hbox hg; have hnb32 := NB153_135.out; have hnc32 := NB135_153.out; have hnb33 := NB153_141.out; have hnc33 := NB141_153.out; have hnb34 := NB153_147.out; have hnc34 := NB147_153.out; have hcz35_0 : w31.cell? ⟨gb153, 0, none⟩ = some (.int .i64 0) := (blk_cell BK153.out 0).trans rfl; have hcz35_1 : w31.cell? ⟨gb153, 1, none⟩ = some (.int .i64 0) := (blk_cell BK153.out 1).trans rfl; have hcz35_2 : w31.cell? ⟨gb153, 2, none⟩ = some (.int .i64 0) := (blk_cell BK153.out 2).trans rfl; have hcz35_3 : w31.cell? ⟨gb153, 3, none⟩ = some (.int .u8 0) := (blk_cell BK153.out 3).trans rfl; have hfz35_0 := blk_frozen BK153.out 0; have hfz35_1 := blk_frozen BK153.out 1; have hfz35_2 := blk_frozen BK153.out 2; have hfz35_3 := blk_frozen BK153.out 3) | ((with_reducible refine gate_callee (f := 11) rfl ?_); refine goesL_ (some 33) rfl rfl Try.func11 (by kernel_rfl) rfl #[.int .i64 5, .int .i64 1] rfl (by (try simp only [List.map_toArray, List.map_cons, List.map_nil]); first | done | rfl | (simp only [List.length_drop, List.length_take]; rfl)) ?_; (with_reducible refine (number_Start.calls k 5 1 t154 t155 t156 t157 false _ A5.out).mono ?_); rintro e w36 ⟨rfl, hb⟩; refine ⟨_, rfl, ?_⟩; have n0_ := Aside0.mk (blk_below (g := gb135) (o := .cells #[.int .i64 t130, .int .i64 t131, .int .i64 t132, .int .u8 t133] 25 (0, 0)) (by (with_reducible repeat (first | refine blk_drewN ?_ _ | refine blk_drew ?_ | refine blk_alloc ?_ _)); refine blk_far ?_ NB135_153.out _; (with_reducible repeat (first | refine blk_drewN ?_ _ | refine blk_drew ?_ | refine blk_alloc ?_ _)); refine blk_far ?_ NB135_153.out _; (with_reducible repeat (first | refine blk_drewN ?_ _ | refine blk_drew ?_ | refine blk_alloc ?_ _)); refine blk_far ?_ NB135_153.out _; (with_reducible repeat (first | refine blk_drewN ?_ _ | refine blk_drew ?_ | refine blk_alloc ?_ _)); refine blk_far ?_ NB135_153.out _; (with_reducible repeat (first | refine blk_drewN ?_ _ | refine blk_drew ?_ | refine blk_alloc ?_ _)); exact BK135.out) hb); have n1_ := Aside0.mk (blk_below (g := gb141) (o := .cells #[.int .i64 t136, .int .i64 t137, .int .i64 t138, .int .u8 t139] 25 (0, 0)) (by (with_reducible repeat (first | refine blk_drewN ?_ _ | refine blk_drew ?_ | refine blk_alloc ?_ _)); refine blk_far ?_ NB141_153.out _; (with_reducible repeat (first | refine blk_drewN ?_ _ | refine blk_drew ?_ | refine blk_alloc ?_ _)); refine blk_far ?_ NB141_153.out _; (with_reducible repeat (first | refine blk_drewN ?_ _ | refine blk_drew ?_ | refine blk_alloc ?_ _)); refine blk_far ?_ NB141_153.out _; (with_reducible repeat (first | refine blk_drewN ?_ _ | refine blk_drew ?_ | refine blk_alloc ?_ _)); refine blk_far ?_ NB141_153.out _; (with_reducible repeat (first | refine blk_drewN ?_ _ | refine blk_drew ?_ | refine blk_alloc ?_ _)); exact BK141.out) hb); have n2_ := Aside0.mk (blk_below (g := gb147) (o := .cells #[.int .i64 t142, .int .i64 t143, .int .i64 t144, .int .u8 t145] 25 (0, 0)) (by (with_reducible repeat (first | refine blk_drewN ?_ _ | refine blk_drew ?_ | refine blk_alloc ?_ _)); refine blk_far ?_ NB147_153.out _; (with_reducible repeat (first | refine blk_drewN ?_ _ | refine blk_drew ?_ | refine blk_alloc ?_ _)); refine blk_far ?_ NB147_153.out _; (with_reducible repeat (first | refine blk_drewN ?_ _ | refine blk_drew ?_ | refine blk_alloc ?_ _)); refine blk_far ?_ NB147_153.out _; (with_reducible repeat (first | refine blk_drewN ?_ _ | refine blk_drew ?_ | refine blk_alloc ?_ _)); refine blk_far ?_ NB147_153.out _; (with_reducible repeat (first | refine blk_drewN ?_ _ | refine blk_drew ?_ | refine blk_alloc ?_ _)); exact BK147.out) hb); have n3_ := Aside0.mk (blk_below (g := gb153) (o := .cells #[.int .i64 t148, .int .i64 t149, .int .i64 t150, .int .u8 t151] 25 (0, 0)) (by (with_reducible repeat (first | refine blk_drewN ?_ _ | refine blk_drew ?_ | refine blk_alloc ?_ _)); refine blk_put (cs := #[.int .i64 t148, .int .i64 t149, .int .i64 t150, .int .u8 0]) ?_ 3 _ rfl; (with_reducible repeat (first | refine blk_drewN ?_ _ | refine blk_drew ?_ | refine blk_alloc ?_ _)); refine blk_put (cs := #[.int .i64 t148, .int .i64 t149, .int .i64 0, .int .u8 0]) ?_ 2 _ rfl; (with_reducible repeat (first | refine blk_drewN ?_ _ | refine blk_drew ?_ | refine blk_alloc ?_ _)); refine blk_put (cs := #[.int .i64 t148, .int .i64 0, .int .i64 0, .int .u8 0]) ?_ 1 _ rfl; (with_reducible repeat (first | refine blk_drewN ?_ _ | refine blk_drew ?_ | refine blk_alloc ?_ _)); refine blk_put (cs := #[.int .i64 0, .int .i64 0, .int .i64 0, .int .u8 0]) ?_ 0 _ rfl; (with_reducible repeat (first | refine blk_drewN ?_ _ | refine blk_drew ?_ | refine blk_alloc ?_ _)); exact BK153.out) hb); have n4_ := Aside0.mk (below_step (by repeat (first | (with_reducible first | exact HB.out | apply below_alloc | apply pw_below_drewN | apply below_drew1 | refine below_set ?_ GE135.out | refine below_set ?_ GE141.out | refine below_set ?_ GE147.out | refine below_set ?_ GE153.out) | exact HB.out)) hb); clear BK135; clear BK141; clear BK147; clear BK153; clear HB; have BK135 := n0_; have BK141 := n1_; have BK147 := n2_; have BK153 := n3_; have HB := n4_; clear n0_ n1_ n2_ n3_ n4_; (try clear hb); (try clear hb2); (try clear hk); (try clear hi)) | ((with_reducible refine gate_dst (N := 9) rfl ?_); refine box_event ?hg (N := 9) ?hd (cs := #[.int .i64 0, .int .i64 0, .int .i64 0, .int .u8 0]) (t := 25) ?hr ?_; (case hd => rfl); (case hg => rfl); (case hr => first | (go_simp; done) | (go_simp; rfl)); intro gb159 hg w37 hbox hb; have n0_ := Aside0.mk (blk_below (g := gb135) (o := .cells #[.int .i64 t130, .int .i64 t131, .int .i64 t132, .int .u8 t133] 25 (0, 0)) (by (with_reducible repeat (first | refine blk_drewN ?_ _ | refine blk_drew ?_ | refine blk_alloc ?_ _)); exact BK135.out) hb); have n1_ := Aside0.mk (blk_below (g := gb141) (o := .cells #[.int .i64 t136, .int .i64 t137, .int .i64 t138, .int .u8 t139] 25 (0, 0)) (by (with_reducible repeat (first | refine blk_drewN ?_ _ | refine blk_drew ?_ | refine blk_alloc ?_ _)); exact BK141.out) hb); have n2_ := Aside0.mk (blk_below (g := gb147) (o := .cells #[.int .i64 t142, .int .i64 t143, .int .i64 t144, .int .u8 t145] 25 (0, 0)) (by (with_reducible repeat (first | refine blk_drewN ?_ _ | refine blk_drew ?_ | refine blk_alloc ?_ _)); exact BK147.out) hb); have n3_ := Aside0.mk (blk_below (g := gb153) (o := .cells #[.int .i64 t148, .int .i64 t149, .int .i64 t150, .int .u8 t151] 25 (0, 0)) (by (with_reducible repeat (first | refine blk_drewN ?_ _ | refine blk_drew ?_ | refine blk_alloc ?_ _)); exact BK153.out) hb); have n4_ := Aside0.mk (below_step (by repeat (first | (with_reducible first | exact HB.out | apply below_alloc | apply pw_below_drewN | apply below_drew1 | refine below_set ?_ GE135.out | refine below_set ?_ GE141.out | refine below_set ?_ GE147.out | refine below_set ?_ GE153.out) | exact HB.out)) hb); have n5_ := Aside0.mk (hbox); have n6_ := Aside0.mk ((by rw [hg]; exact (below_size (by repeat (first | (with_reducible first | exact HB.out | apply below_alloc | apply pw_below_drewN | apply below_drew1 | refine below_set ?_ GE135.out | refine below_set ?_ GE141.out | refine below_set ?_ GE147.out | refine below_set ?_ GE153.out) | exact HB.out))) : w.heap.size ≤ gb159)); have n7_ := Aside0.mk ((by rw [hg]; exact (below_size (by repeat (first | (with_reducible first | exact HB.out | apply below_alloc | apply pw_below_drewN | apply below_drew1 | refine below_set ?_ GE135.out | refine below_set ?_ GE141.out | refine below_set ?_ GE147.out | refine below_set ?_ GE153.out) | exact HB.out))) : w.heap.size ≤ gb159)); have n8_ := Aside0.mk ((by rw [hg]; exact Nat.ne_of_lt (blk_lt (g := gb135) (o := .cells #[.int .i64 t130, .int .i64 t131, .int .i64 t132, .int .u8 t133] 25 (0, 0)) (by (with_reducible repeat (first | refine blk_drewN ?_ _ | refine blk_drew ?_ | refine blk_alloc ?_ _)); exact BK135.out)) : gb135 ≠ gb159)); have n9_ := Aside0.mk ((by rw [hg]; exact Nat.ne_of_gt (blk_lt (g := gb135) (o := .cells #[.int .i64 t130, .int .i64 t131, .int .i64 t132, .int .u8 t133] 25 (0, 0)) (by (with_reducible repeat (first | refine blk_drewN ?_ _ | refine blk_drew ?_ | refine blk_alloc ?_ _)); exact BK135.out)) : gb159 ≠ gb135)); have n10_ := Aside0.mk ((by rw [hg]; exact Nat.ne_of_lt (blk_lt (g := gb141) (o := .cells #[.int .i64 t136, .int .i64 t137, .int .i64 t138, .int .u8 t139] 25 (0, 0)) (by (with_reducible repeat (first | refine blk_drewN ?_ _ | refine blk_drew ?_ | refine blk_alloc ?_ _)); exact BK141.out)) : gb141 ≠ gb159)); have n11_ := Aside0.mk ((by rw [hg]; exact Nat.ne_of_gt (blk_lt (g := gb141) (o := .cells #[.int .i64 t136, .int .i64 t137, .int .i64 t138, .int .u8 t139] 25 (0, 0)) (by (with_reducible repeat (first | refine blk_drewN ?_ _ | refine blk_drew ?_ | refine blk_alloc ?_ _)); exact BK141.out)) : gb159 ≠ gb141)); have n12_ := Aside0.mk ((by rw [hg]; exact Nat.ne_of_lt (blk_lt (g := gb147) (o := .cells #[.int .i64 t142, .int .i64 t143, .int .i64 t144, .int .u8 t145] 25 (0, 0)) (by (with_reducible repeat (first | refine blk_drewN ?_ _ | refine blk_drew ?_ | refine blk_alloc ?_ _)); exact BK147.out)) : gb147 ≠ gb159)); have n13_ := Aside0.mk ((by rw [hg]; exact Nat.ne_of_gt (blk_lt (g := gb147) (o := .cells #[.int .i64 t142, .int .i64 t143, .int .i64 t144, .int .u8 t145] 25 (0, 0)) (by (with_reducible repeat (first | refine blk_drewN ?_ _ | refine blk_drew ?_ | refine blk_alloc ?_ _)); exact BK147.out)) : gb159 ≠ gb147)); have n14_ := Aside0.mk ((by rw [hg]; exact Nat.ne_of_lt (blk_lt (g := gb153) (o := .cells #[.int .i64 t148, .int .i64 t149, .int .i64 t150, .int .u8 t151] 25 (0, 0)) (by (with_reducible repeat (first | refine blk_drewN ?_ _ | refine blk_drew ?_ | refine blk_alloc ?_ _)); exact BK153.out)) : gb153 ≠ gb159)); have n15_ := Aside0.mk ((by rw [hg]; exact Nat.ne_of_gt (blk_lt (g := gb153) (o := .cells #[.int .i64 t148, .int .i64 t149, .int .i64 t150, .int .u8 t151] 25 (0, 0)) (by (with_reducible repeat (first | refine blk_drewN ?_ _ | refine blk_drew ?_ | refine blk_alloc ?_ _)); exact BK153.out)) : gb159 ≠ gb153)); clear BK135; clear BK141; clear BK147; clear BK153; clear HB; have BK135 := n0_; have BK141 := n1_; have BK147 := n2_; have BK153 := n3_; have HB := n4_; have BK159 := n5_; have GW159 := n6_; have GE159 := n7_; have NB135_159 := n8_; have NB159_135 := n9_; have NB141_159 := n10_; have NB159_141 := n11_; have NB147_159 := n12_; have NB159_147 := n13_; have NB153_159 := n14_; have NB159_153 := n15_; clear n0_ n1_ n2_ n3_ n4_ n5_ n6_ n7_ n8_ n9_ n10_ n11_ n12_ n13_ n14_ n15_; clear hb hbox hg; have hnb38 := NB159_135.out; have hnc38 := NB135_159.out; have hnb39 := NB159_141.out; have hnc39 := NB141_159.out; have hnb40 := NB159_147.out; have hnc40 := NB147_159.out; have hnb41 := NB159_153.out; have hnc41 := NB153_159.out; have hcz42_0 : w37.cell? ⟨gb159, 0, none⟩ = some (.int .i64 0) := (blk_cell BK159.out 0).trans rfl; have hcz42_1 : w37.cell? ⟨gb159, 1, none⟩ = some (.int .i64 0) := (blk_cell BK159.out 1).trans rfl; have hcz42_2 : w37.cell? ⟨gb159, 2, none⟩ = some (.int .i64 0) := (blk_cell BK159.out 2).trans rfl; have hcz42_3 : w37.cell? ⟨gb159, 3, none⟩ = some (.int .u8 0) := (blk_cell BK159.out 3).trans rfl; have hfz42_0 := blk_frozen BK159.out 0; have hfz42_1 := blk_frozen BK159.out 1; have hfz42_2 := blk_frozen BK159.out 2; have hfz42_3 := blk_frozen BK159.out 3) | ((with_reducible refine gate_callee (f := 13) rfl ?_); refine goesL_ (some 37) rfl rfl Try.func13 (by kernel_rfl) rfl #[.string (⟨#[255, 127]⟩ : ByteArray)] rfl (by (try simp only [List.map_toArray, List.map_cons, List.map_nil]); first | done | rfl | (simp only [List.length_drop, List.length_take]; rfl)) ?_; (with_reducible refine (number_Get.calls k (⟨#[255, 127]⟩ : ByteArray) t160 t161 _ A6.out).mono ?_); rintro e w43 ⟨rfl, hb⟩; refine ⟨_, rfl, ?_⟩; have n0_ := Aside0.mk (blk_below (g := gb135) (o := .cells #[.int .i64 t130, .int .i64 t131, .int .i64 t132, .int .u8 t133] 25 (0, 0)) (by (with_reducible repeat (first | refine blk_drewN ?_ _ | refine blk_drew ?_ | refine blk_alloc ?_ _)); refine blk_far ?_ NB135_159.out _; (with_reducible repeat (first | refine blk_drewN ?_ _ | refine blk_drew ?_ | refine blk_alloc ?_ _)); refine blk_far ?_ NB135_159.out _; (with_reducible repeat (first | refine blk_drewN ?_ _ | refine blk_drew ?_ | refine blk_alloc ?_ _)); refine blk_far ?_ NB135_159.out _; (with_reducible repeat (first | refine blk_drewN ?_ _ | refine blk_drew ?_ | refine blk_alloc ?_ _)); refine blk_far ?_ NB135_159.out _; (with_reducible repeat (first | refine blk_drewN ?_ _ | refine blk_drew ?_ | refine blk_alloc ?_ _)); exact BK135.out) hb); have n1_ := Aside0.mk (blk_below (g := gb141) (o := .cells #[.int .i64 t136, .int .i64 t137, .int .i64 t138, .int .u8 t139] 25 (0, 0)) (by (with_reducible repeat (first | refine blk_drewN ?_ _ | refine blk_drew ?_ | refine blk_alloc ?_ _)); refine blk_far ?_ NB141_159.out _; (with_reducible repeat (first | refine blk_drewN ?_ _ | refine blk_drew ?_ | refine blk_alloc ?_ _)); refine blk_far ?_ NB141_159.out _; (with_reducible repeat (first | refine blk_drewN ?_ _ | refine blk_drew ?_ | refine blk_alloc ?_ _)); refine blk_far ?_ NB141_159.out _; (with_reducible repeat (first | refine blk_drewN ?_ _ | refine blk_drew ?_ | refine blk_alloc ?_ _)); refine blk_far ?_ NB141_159.out _; (with_reducible repeat (first | refine blk_drewN ?_ _ | refine blk_drew ?_ | refine blk_alloc ?_ _)); exact BK141.out) hb); have n2_ := Aside0.mk (blk_below (g := gb147) (o := .cells #[.int .i64 t142, .int .i64 t143, .int .i64 t144, .int .u8 t145] 25 (0, 0)) (by (with_reducible repeat (first | refine blk_drewN ?_ _ | refine blk_drew ?_ | refine blk_alloc ?_ _)); refine blk_far ?_ NB147_159.out _; (with_reducible repeat (first | refine blk_drewN ?_ _ | refine blk_drew ?_ | refine blk_alloc ?_ _)); refine blk_far ?_ NB147_159.out _; (with_reducible repeat (first | refine blk_drewN ?_ _ | refine blk_drew ?_ | refine blk_alloc ?_ _)); refine blk_far ?_ NB147_159.out _; (with_reducible repeat (first | refine blk_drewN ?_ _ | refine blk_drew ?_ | refine blk_alloc ?_ _)); refine blk_far ?_ NB147_159.out _; (with_reducible repeat (first | refine blk_drewN ?_ _ | refine blk_drew ?_ | refine blk_alloc ?_ _)); exact BK147.out) hb); have n3_ := Aside0.mk (blk_below (g := gb153) (o := .cells #[.int .i64 t148, .int .i64 t149, .int .i64 t150, .int .u8 t151] 25 (0, 0)) (by (with_reducible repeat (first | refine blk_drewN ?_ _ | refine blk_drew ?_ | refine blk_alloc ?_ _)); refine blk_far ?_ NB153_159.out _; (with_reducible repeat (first | refine blk_drewN ?_ _ | refine blk_drew ?_ | refine blk_alloc ?_ _)); refine blk_far ?_ NB153_159.out _; (with_reducible repeat (first | refine blk_drewN ?_ _ | refine blk_drew ?_ | refine blk_alloc ?_ _)); refine blk_far ?_ NB153_159.out _; (with_reducible repeat (first | refine blk_drewN ?_ _ | refine blk_drew ?_ | refine blk_alloc ?_ _)); refine blk_far ?_ NB153_159.out _; (with_reducible repeat (first | refine blk_drewN ?_ _ | refine blk_drew ?_ | refine blk_alloc ?_ _)); exact BK153.out) hb); have n4_ := Aside0.mk (blk_below (g := gb159) (o := .cells #[.int .i64 t154, .int .i64 t155, .int .i64 t156, .int .u8 t157] 25 (0, 0)) (by (with_reducible repeat (first | refine blk_drewN ?_ _ | refine blk_drew ?_ | refine blk_alloc ?_ _)); refine blk_put (cs := #[.int .i64 t154, .int .i64 t155, .int .i64 t156, .int .u8 0]) ?_ 3 _ rfl; (with_reducible repeat (first | refine blk_drewN ?_ _ | refine blk_drew ?_ | refine blk_alloc ?_ _)); refine blk_put (cs := #[.int .i64 t154, .int .i64 t155, .int .i64 0, .int .u8 0]) ?_ 2 _ rfl; (with_reducible repeat (first | refine blk_drewN ?_ _ | refine blk_drew ?_ | refine blk_alloc ?_ _)); refine blk_put (cs := #[.int .i64 t154, .int .i64 0, .int .i64 0, .int .u8 0]) ?_ 1 _ rfl; (with_reducible repeat (first | refine blk_drewN ?_ _ | refine blk_drew ?_ | refine blk_alloc ?_ _)); refine blk_put (cs := #[.int .i64 0, .int .i64 0, .int .i64 0, .int .u8 0]) ?_ 0 _ rfl; (with_reducible repeat (first | refine blk_drewN ?_ _ | refine blk_drew ?_ | refine blk_alloc ?_ _)); exact BK159.out) hb); have n5_ := Aside0.mk (below_step (by repeat (first | (with_reducible first | exact HB.out | apply below_alloc | apply pw_below_drewN | apply below_drew1 | refine below_set ?_ GE135.out | refine below_set ?_ GE141.out | refine below_set ?_ GE147.out | refine below_set ?_ GE153.out | refine below_set ?_ GE159.out) | exact HB.out)) hb); clear BK135; clear BK141; clear BK147; clear BK153; clear BK159; clear HB; have BK135 := n0_; have BK141 := n1_; have BK147 := n2_; have BK153 := n3_; have BK159 := n4_; have HB := n5_; clear n0_ n1_ n2_ n3_ n4_ n5_; (try clear hb); (try clear hb2); (try clear hk); (try clear hi)) | (go_at_call 15; (with_reducible refine (number_Put.calls k 128 t162 _ A12.out).mono ?_); rintro e w44 ⟨rfl, hb⟩; have n0_ := Aside0.mk (blk_below (g := gb135) (o := .cells #[.int .i64 t130, .int .i64 t131, .int .i64 t132, .int .u8 t133] 25 (0, 0)) (by (with_reducible repeat (first | refine blk_drewN ?_ _ | refine blk_drew ?_ | refine blk_alloc ?_ _)); exact BK135.out) hb); have n1_ := Aside0.mk (blk_below (g := gb141) (o := .cells #[.int .i64 t136, .int .i64 t137, .int .i64 t138, .int .u8 t139] 25 (0, 0)) (by (with_reducible repeat (first | refine blk_drewN ?_ _ | refine blk_drew ?_ | refine blk_alloc ?_ _)); exact BK141.out) hb); have n2_ := Aside0.mk (blk_below (g := gb147) (o := .cells #[.int .i64 t142, .int .i64 t143, .int .i64 t144, .int .u8 t145] 25 (0, 0)) (by (with_reducible repeat (first | refine blk_drewN ?_ _ | refine blk_drew ?_ | refine blk_alloc ?_ _)); exact BK147.out) hb); have n3_ := Aside0.mk (blk_below (g := gb153) (o := .cells #[.int .i64 t148, .int .i64 t149, .int .i64 t150, .int .u8 t151] 25 (0, 0)) (by (with_reducible repeat (first | refine blk_drewN ?_ _ | refine blk_drew ?_ | refine blk_alloc ?_ _)); exact BK153.out) hb); have n4_ := Aside0.mk (blk_below (g := gb159) (o := .cells #[.int .i64 t154, .int .i64 t155, .int .i64 t156, .int .u8 t157] 25 (0, 0)) (by (with_reducible repeat (first | refine blk_drewN ?_ _ | refine blk_drew ?_ | refine blk_alloc ?_ _)); exact BK159.out) hb); have n5_ := Aside0.mk (below_step (by repeat (first | (with_reducible first | exact HB.out | apply below_alloc | apply pw_below_drewN | apply below_drew1 | refine below_set ?_ GE135.out | refine below_set ?_ GE141.out | refine below_set ?_ GE147.out | refine below_set ?_ GE153.out | refine below_set ?_ GE159.out) | exact HB.out)) hb); clear BK135; clear BK141; clear BK147; clear BK153; clear BK159; clear HB; have BK135 := n0_; have BK141 := n1_; have BK147 := n2_; have BK153 := n3_; have BK159 := n4_; have HB := n5_; clear n0_ n1_ n2_ n3_ n4_ n5_; (try clear hb); (try clear hb2); (try clear hk); (try clear hi)) | (go_at_call 15; (with_reducible refine (number_Put.calls k (-129) t163 _ A14.out).mono ?_); rintro e w45 ⟨rfl, hb⟩; have n0_ := Aside0.mk (blk_below (g := gb135) (o := .cells #[.int .i64 t130, .int .i64 t131, .int .i64 t132, .int .u8 t133] 25 (0, 0)) (by (with_reducible repeat (first | refine blk_drewN ?_ _ | refine blk_drew ?_ | refine blk_alloc ?_ _)); exact BK135.out) hb); have n1_ := Aside0.mk (blk_below (g := gb141) (o := .cells #[.int .i64 t136, .int .i64 t137, .int .i64 t138, .int .u8 t139] 25 (0, 0)) (by (with_reducible repeat (first | refine blk_drewN ?_ _ | refine blk_drew ?_ | refine blk_alloc ?_ _)); exact BK141.out) hb); have n2_ := Aside0.mk (blk_below (g := gb147) (o := .cells #[.int .i64 t142, .int .i64 t143, .int .i64 t144, .int .u8 t145] 25 (0, 0)) (by (with_reducible repeat (first | refine blk_drewN ?_ _ | refine blk_drew ?_ | refine blk_alloc ?_ _)); exact BK147.out) hb); have n3_ := Aside0.mk (blk_below (g := gb153) (o := .cells #[.int .i64 t148, .int .i64 t149, .int .i64 t150, .int .u8 t151] 25 (0, 0)) (by (with_reducible repeat (first | refine blk_drewN ?_ _ | refine blk_drew ?_ | refine blk_alloc ?_ _)); exact BK153.out) hb); have n4_ := Aside0.mk (blk_below (g := gb159) (o := .cells #[.int .i64 t154, .int .i64 t155, .int .i64 t156, .int .u8 t157] 25 (0, 0)) (by (with_reducible repeat (first | refine blk_drewN ?_ _ | refine blk_drew ?_ | refine blk_alloc ?_ _)); exact BK159.out) hb); have n5_ := Aside0.mk (below_step (by repeat (first | (with_reducible first | exact HB.out | apply below_alloc | apply pw_below_drewN | apply below_drew1 | refine below_set ?_ GE135.out | refine below_set ?_ GE141.out | refine below_set ?_ GE147.out | refine below_set ?_ GE153.out | refine below_set ?_ GE159.out) | exact HB.out)) hb); clear BK135; clear BK141; clear BK147; clear BK153; clear BK159; clear HB; have BK135 := n0_; have BK141 := n1_; have BK147 := n2_; have BK153 := n3_; have BK159 := n4_; have HB := n5_; clear n0_ n1_ n2_ n3_ n4_ n5_; (try clear hb); (try clear hb2); (try clear hk); (try clear hi)))
                  go_ret
                  exact ⟨by first | rfl | (simp [errW_none, errW_some] <;> rfl) | (simp [*, errW_none, errW_some] <;> rfl), by repeat (first | (with_reducible first | exact HB.out | apply below_alloc | apply pw_below_drewN | apply below_drew1 | refine below_set ?_ GE135.out | refine below_set ?_ GE141.out | refine below_set ?_ GE147.out | refine below_set ?_ GE153.out | refine below_set ?_ GE159.out) | exact HB.out)⟩
                · rw [if_neg c16] at H
                  exact absurd H (by simp)
              · rw [if_neg c15] at H
                exact absurd H (by simp)
            · rw [if_neg c13] at H
              exact absurd H (by simp)
        · replace c10 := Bool.eq_false_iff.mpr c10
          subst c10
          have H1 : (none) = some r := by rw [if_neg (show ¬ (false = true) by decide)] at H; exact H
          clear H
          have H := H1
          clear H1
          exact absurd H (by simp)
    · replace c8 := Bool.eq_false_iff.mpr c8
      subst c8
      have H1 : (none) = some r := by rw [if_neg (show ¬ (false = true) by decide)] at H; exact H
      clear H
      have H := H1
      clear H1
      exact absurd H (by simp)
  · replace c7 := Bool.eq_false_iff.mpr c7
    subst c7
    have H1 : (none) = some r := by rw [if_neg (show ¬ (false = true) by decide)] at H; exact H
    clear H
    have H := H1
    clear H1
    exact absurd H (by simp)

/-! ### gantletref10_Wrong: function 10 -/
def gantletref10_Wrong.j0 : Nat → Int → ByteArray → Bool → Option (Int)
  | 0, _, _, _ => none
  | k + 1, x1, x2, x35 => if x35 = true then (some (-1)) else (if x1 = 0 then (some 0) else (if (x2.size : Int) > 1 then (if 0 < (x2.size : Int) then (if (bt x2 0) = 0 then (if 1 < (x2.size : Int) then (if (bt x2 1) < 128 then (some 2) else (if (bt x2 0) = 255 then (if (bt x2 1) > 127 then (some 2) else (some (-1))) else (some (-1)))) else (none)) else (if (bt x2 0) = 255 then (if 1 < (x2.size : Int) then (if (bt x2 1) > 127 then (some 2) else (some (-1))) else (none)) else (some (-1)))) else (none)) else (some (-1))))
def gantletref10_Wrong.f (k : Nat) (a0 : Int) (a1 : Int) (a2 : ByteArray) : Option (Int) := if a1 < 0 then (some 0) else (if a0 = 5 then (if a1 = 0 then (some (-1)) else (some 0)) else (if a0 = 1 then (if a1 = 1 then (if (a2.size : Int) > 0 then (if 0 < (a2.size : Int) then (if (bt a2 0) = 0 then (some (-1)) else (if (bt a2 0) = 255 then (some (-1)) else (some 1))) else (none)) else (some (-1))) else (some 0)) else (if a0 = 2 then (gantletref10_Wrong.j0 k a1 a2 false) else (gantletref10_Wrong.j0 k a1 a2 (a0 != 10)))))
theorem gantletref10_Wrong.mono_l : ∀ k, (∀ y0 y1 y2, LeO (gantletref10_Wrong.j0 k y0 y1 y2) (gantletref10_Wrong.j0 (k + 1) y0 y1 y2))
  | 0 => fun _ _ _ r h => by simp [gantletref10_Wrong.j0] at h
  | k + 1 => by
    have ih0 := gantletref10_Wrong.mono_l k
    · intro y0 y1 y2
      unfold gantletref10_Wrong.j0
      repeat' first
      | (with_reducible exact ih0 _ _ _)
      | (with_reducible exact LeO.refl _)
      | (with_reducible exact LeO.none _)
      | (with_reducible refine LeO.ite ?_ ?_)
      | (with_reducible refine LeO.bind ?_ (fun _ => ?_))
      | exact ih0 _ _ _
      | exact LeO.none _
      | refine LeO.ite ?_ ?_
      | refine LeO.bind ?_ (fun _ => ?_)
theorem gantletref10_Wrong.mono : ∀ a0 a1 a2 k, LeO (gantletref10_Wrong.f k a0 a1 a2) (gantletref10_Wrong.f (k + 1) a0 a1 a2) := by
  intro a0 a1 a2 k
  have ih0 := gantletref10_Wrong.mono_l k
  unfold gantletref10_Wrong.f
  repeat' first
      | (with_reducible exact ih0 _ _ _)
      | (with_reducible exact LeO.refl _)
      | (with_reducible exact LeO.none _)
      | (with_reducible refine LeO.ite ?_ ?_)
      | (with_reducible refine LeO.bind ?_ (fun _ => ?_))
      | exact ih0 _ _ _
      | exact LeO.none _
      | refine LeO.ite ?_ ?_
      | refine LeO.bind ?_ (fun _ => ?_)
set_option maxHeartbeats 8000000 in
set_option maxRecDepth 100000 in
theorem gantletref10_Wrong.calls (k : Nat) (a0 : Int) (a1 : Int) (a2 : ByteArray) (r : Int) (w : World) (h : gantletref10_Wrong.f k a0 a1 a2 = some r) :
    Calls Try.prog 10 #[.int .i64 a0, .int .i64 a1, .string a2] w fun e w' => e = .returned (.int .i64 r) ∧ Drawn0 w w' := by
  have H : (if a1 < 0 then (some 0) else (if a0 = 5 then (if a1 = 0 then (some (-1)) else (some 0)) else (if a0 = 1 then (if a1 = 1 then (if (a2.size : Int) > 0 then (if 0 < (a2.size : Int) then (if (bt a2 0) = 0 then (some (-1)) else (if (bt a2 0) = 255 then (some (-1)) else (some 1))) else (none)) else (some (-1))) else (some 0)) else (if a0 = 2 then (gantletref10_Wrong.j0 k a1 a2 false) else (gantletref10_Wrong.j0 k a1 a2 (a0 != 10)))))) = some r := h
  clear h
  by_cases c4 : a1 < 0
  · rw [if_pos c4] at H
    have c4b0 : decide (a1 < 0) = true := decide_eq_true c4
    clear c4
    obtain rfl := Option.some.inj H
    go_enter Try.func10, Try.ntmps10
    go_wp2
    go_ret
    exact ⟨by first | rfl | (simp; done) | (simp [*]; done), by repeat (first | exact Drawn0.refl _ | apply Drawn0.step)⟩
  · rw [if_neg c4] at H
    have c4b0 : decide (a1 < 0) = false := decide_eq_false c4
    clear c4
    by_cases c5 : a0 = 5
    · rw [if_pos c5] at H
      have c5b0 : (a0 == 5) = true := beq_iff_eq.mpr c5
      have c5b1 : (a0 != 5) = false := bne_eq_false_iff_eq.mpr c5
      clear c5
      by_cases c6 : a1 = 0
      · rw [if_pos c6] at H
        have c6b0 : (a1 == 0) = true := beq_iff_eq.mpr c6
        have c6b1 : (a1 != 0) = false := bne_eq_false_iff_eq.mpr c6
        clear c6
        obtain rfl := Option.some.inj H
        go_enter Try.func10, Try.ntmps10
        go_wp2
        go_ret
        exact ⟨by first | rfl | (simp; done) | (simp [*]; done), by repeat (first | exact Drawn0.refl _ | apply Drawn0.step)⟩
      · rw [if_neg c6] at H
        have c6b0 : (a1 == 0) = false := beq_eq_false_iff_ne.mpr c6
        have c6b1 : (a1 != 0) = true := bne_iff_ne.mpr c6
        obtain rfl := Option.some.inj H
        go_enter Try.func10, Try.ntmps10
        go_wp2
        go_ret
        exact ⟨by first | rfl | (simp; done) | (simp [*]; done), by repeat (first | exact Drawn0.refl _ | apply Drawn0.step)⟩
    · rw [if_neg c5] at H
      have c5b0 : (a0 == 5) = false := beq_eq_false_iff_ne.mpr c5
      have c5b1 : (a0 != 5) = true := bne_iff_ne.mpr c5
      by_cases c7 : a0 = 1
      · rw [if_pos c7] at H
        have c7b0 : (a0 == 1) = true := beq_iff_eq.mpr c7
        have c7b1 : (a0 != 1) = false := bne_eq_false_iff_eq.mpr c7
        clear c7
        by_cases c8 : a1 = 1
        · rw [if_pos c8] at H
          have c8b0 : (a1 == 1) = true := beq_iff_eq.mpr c8
          have c8b1 : (a1 != 1) = false := bne_eq_false_iff_eq.mpr c8
          clear c8
          by_cases c9 : (a2.size : Int) > 0
          · rw [if_pos c9] at H
            have c9b0 : decide (0 < (a2.size : Int)) = true := decide_eq_true c9
            have c9b1 : decide (0 < a2.size) = true := decide_eq_true (by omega)
            clear c9
            by_cases c10 : 0 < (a2.size : Int)
            · rw [if_pos c10] at H
              have c10b0 : decide (0 < (a2.size : Int)) = true := decide_eq_true c10
              have c10b1 : decide (0 < a2.size) = true := decide_eq_true (by omega)
              clear c10
              by_cases c12 : (bt a2 0) = 0
              · rw [if_pos c12] at H
                have c12b0 : ((bt a2 0) == 0) = true := beq_iff_eq.mpr c12
                have c12b1 : ((bt a2 0) != 0) = false := bne_eq_false_iff_eq.mpr c12
                clear c12
                obtain rfl := Option.some.inj H
                have p11 : 0 ≤ (0 : Int) := (by omega)
                have q11 : 0 < a2.size := (by have : (0 : Int) < (a2.size : Int) := of_decide_eq_true (by first | (with_reducible assumption) | assumption); omega)
                have hx11 : ∀ h : 0 < a2.size, ((a2[0]'h).toNat : Int) = bt a2 0 := bt_at a2 0
                clear p11
                have qi11 : (0 < (a2.size : Int)) = True := eq_true (of_decide_eq_true (by first | (with_reducible assumption) | assumption))
                replace q11 := eq_true q11
                go_enter Try.func10, Try.ntmps10
                go_wp2
                go_ret
                exact ⟨by first | rfl | (simp; done) | (simp [*]; done), by repeat (first | exact Drawn0.refl _ | apply Drawn0.step)⟩
              · rw [if_neg c12] at H
                have c12b0 : ((bt a2 0) == 0) = false := beq_eq_false_iff_ne.mpr c12
                have c12b1 : ((bt a2 0) != 0) = true := bne_iff_ne.mpr c12
                by_cases c14 : (bt a2 0) = 255
                · rw [if_pos c14] at H
                  have c14b0 : ((bt a2 0) == 255) = true := beq_iff_eq.mpr c14
                  have c14b1 : ((bt a2 0) != 255) = false := bne_eq_false_iff_eq.mpr c14
                  clear c14
                  obtain rfl := Option.some.inj H
                  have p11 : 0 ≤ (0 : Int) := (by omega)
                  have q11 : 0 < a2.size := (by have : (0 : Int) < (a2.size : Int) := of_decide_eq_true (by first | (with_reducible assumption) | assumption); omega)
                  have hx11 : ∀ h : 0 < a2.size, ((a2[0]'h).toNat : Int) = bt a2 0 := bt_at a2 0
                  clear p11
                  have qi11 : (0 < (a2.size : Int)) = True := eq_true (of_decide_eq_true (by first | (with_reducible assumption) | assumption))
                  replace q11 := eq_true q11
                  have p13 : 0 ≤ (0 : Int) := (by omega)
                  have q13 : 0 < a2.size := (by have : (0 : Int) < (a2.size : Int) := of_decide_eq_true (by first | (with_reducible assumption) | assumption); omega)
                  have hx13 : ∀ h : 0 < a2.size, ((a2[0]'h).toNat : Int) = bt a2 0 := bt_at a2 0
                  clear p13
                  have qi13 : (0 < (a2.size : Int)) = True := eq_true (of_decide_eq_true (by first | (with_reducible assumption) | assumption))
                  replace q13 := eq_true q13
                  go_enter Try.func10, Try.ntmps10
                  go_wp2
                  go_ret
                  exact ⟨by first | rfl | (simp; done) | (simp [*]; done), by repeat (first | exact Drawn0.refl _ | apply Drawn0.step)⟩
                · rw [if_neg c14] at H
                  have c14b0 : ((bt a2 0) == 255) = false := beq_eq_false_iff_ne.mpr c14
                  have c14b1 : ((bt a2 0) != 255) = true := bne_iff_ne.mpr c14
                  obtain rfl := Option.some.inj H
                  have p11 : 0 ≤ (0 : Int) := (by omega)
                  have q11 : 0 < a2.size := (by have : (0 : Int) < (a2.size : Int) := of_decide_eq_true (by first | (with_reducible assumption) | assumption); omega)
                  have hx11 : ∀ h : 0 < a2.size, ((a2[0]'h).toNat : Int) = bt a2 0 := bt_at a2 0
                  clear p11
                  have qi11 : (0 < (a2.size : Int)) = True := eq_true (of_decide_eq_true (by first | (with_reducible assumption) | assumption))
                  replace q11 := eq_true q11
                  have p13 : 0 ≤ (0 : Int) := (by omega)
                  have q13 : 0 < a2.size := (by have : (0 : Int) < (a2.size : Int) := of_decide_eq_true (by first | (with_reducible assumption) | assumption); omega)
                  have hx13 : ∀ h : 0 < a2.size, ((a2[0]'h).toNat : Int) = bt a2 0 := bt_at a2 0
                  clear p13
                  have qi13 : (0 < (a2.size : Int)) = True := eq_true (of_decide_eq_true (by first | (with_reducible assumption) | assumption))
                  replace q13 := eq_true q13
                  go_enter Try.func10, Try.ntmps10
                  go_wp2
                  go_ret
                  exact ⟨by first | rfl | (simp; done) | (simp [*]; done), by repeat (first | exact Drawn0.refl _ | apply Drawn0.step)⟩
            · rw [if_neg c10] at H
              exact absurd H (by simp)
          · rw [if_neg c9] at H
            have c9b0 : decide (0 < (a2.size : Int)) = false := decide_eq_false c9
            have c9b1 : decide (0 < a2.size) = false := decide_eq_false (by omega)
            clear c9
            obtain rfl := Option.some.inj H
            go_enter Try.func10, Try.ntmps10
            go_wp2
            go_ret
            exact ⟨by first | rfl | (simp; done) | (simp [*]; done), by repeat (first | exact Drawn0.refl _ | apply Drawn0.step)⟩
        · rw [if_neg c8] at H
          have c8b0 : (a1 == 1) = false := beq_eq_false_iff_ne.mpr c8
          have c8b1 : (a1 != 1) = true := bne_iff_ne.mpr c8
          obtain rfl := Option.some.inj H
          go_enter Try.func10, Try.ntmps10
          go_wp2
          go_ret
          exact ⟨by first | rfl | (simp; done) | (simp [*]; done), by repeat (first | exact Drawn0.refl _ | apply Drawn0.step)⟩
      · rw [if_neg c7] at H
        have c7b0 : (a0 == 1) = false := beq_eq_false_iff_ne.mpr c7
        have c7b1 : (a0 != 1) = true := bne_iff_ne.mpr c7
        have HC15 := Aside0.mk H
        clear H
        go_enter Try.func10, Try.ntmps10
        go_upto_region 13 with (fail)
        go_cut [35] (fun v35 wc => ∃ (kq : Nat) (x35_14 : Bool), v35 = .bool x35_14 ∧ Aside0 (gantletref10_Wrong.j0 kq a1 a2 x35_14 = some r) ∧ Aside0 (kq ≤ k) ∧ Drawn0 w wc)
        case first =>
          have H := HC15.out
          clear HC15
          by_cases c16 : a0 = 2
          · rw [if_pos c16] at H
            have c16b0 : (a0 == 2) = true := beq_iff_eq.mpr c16
            have c16b1 : (a0 != 2) = false := bne_eq_false_iff_eq.mpr c16
            clear c16
            (first | rw [c16b0] | (simp only [i64_w, i32_w]; rw [c16b0]) | skip)
            have H' := Aside0.mk H
            clear H
            go_wp2
            go_meet
            case rel => exact ⟨_, (false), (by first | rfl | (simp; done) | (simp [*]; done)), H', ⟨by first | omega | exact Nat.le_refl _⟩, by repeat (first | exact Drawn0.refl _ | apply Drawn0.step)⟩
          · rw [if_neg c16] at H
            have c16b0 : (a0 == 2) = false := beq_eq_false_iff_ne.mpr c16
            have c16b1 : (a0 != 2) = true := bne_iff_ne.mpr c16
            (first | rw [c16b0] | (simp only [i64_w, i32_w]; rw [c16b0]) | skip)
            have H' := Aside0.mk H
            clear H
            go_wp2
            go_meet
            case rel => exact ⟨_, ((a0 != 10)), (by first | rfl | (simp; done) | (simp [*]; done)), H', ⟨by first | omega | exact Nat.le_refl _⟩, by repeat (first | exact Drawn0.refl _ | apply Drawn0.step)⟩
        case rest =>
          clear HC15
          try clear c1
          try clear p1
          try clear q1
          try clear hx1
          try clear qi1
          try clear p2
          try clear c4
          try clear c4b0
          try clear c5
          try clear c5b0
          try clear c5b1
          try clear c6
          try clear c6b0
          try clear c6b1
          try clear c7
          try clear c7b0
          try clear c7b1
          try clear c8
          try clear c8b0
          try clear c8b1
          try clear c9
          try clear c9b0
          try clear c9b1
          try clear c10
          try clear c10b0
          try clear c10b1
          try clear p11
          try clear q11
          try clear hx11
          try clear qi11
          try clear c12
          try clear c12b0
          try clear c12b1
          try clear p13
          try clear q13
          try clear hx13
          try clear qi13
          try clear c14
          try clear c14b0
          try clear c14b1
          try clear c16
          try clear c16b0
          try clear c16b1
          try clear p11
          try clear p13
          try clear q11
          try clear q13
          obtain ⟨kq, x35_14, rfl, HA, HJ14, ⟨mc14, rfl⟩⟩ := hcut
          cases kq with
          | zero => exact absurd HA.out (by simp [gantletref10_Wrong.j0])
          | succ kj14 =>
            have H := HA.out
            clear HA
            simp only [gantletref10_Wrong.j0] at H
            by_cases c17 : x35_14 = true
            · subst c17
              have H1 : (some (-1)) = some r := by rw [if_pos rfl] at H; exact H
              clear H
              have H := H1
              clear H1
              obtain rfl := Option.some.inj H
              go_wp2
              go_ret
              exact ⟨by first | rfl | (simp; done) | (simp [*]; done), by repeat (first | exact Drawn0.refl _ | apply Drawn0.step)⟩
            · replace c17 := Bool.eq_false_iff.mpr c17
              subst c17
              have H1 : (if a1 = 0 then (some 0) else (if (a2.size : Int) > 1 then (if 0 < (a2.size : Int) then (if (bt a2 0) = 0 then (if 1 < (a2.size : Int) then (if (bt a2 1) < 128 then (some 2) else (if (bt a2 0) = 255 then (if (bt a2 1) > 127 then (some 2) else (some (-1))) else (some (-1)))) else (none)) else (if (bt a2 0) = 255 then (if 1 < (a2.size : Int) then (if (bt a2 1) > 127 then (some 2) else (some (-1))) else (none)) else (some (-1)))) else (none)) else (some (-1)))) = some r := by rw [if_neg (show ¬ (false = true) by decide)] at H; exact H
              clear H
              have H := H1
              clear H1
              by_cases c18 : a1 = 0
              · rw [if_pos c18] at H
                have c18b0 : (a1 == 0) = true := beq_iff_eq.mpr c18
                have c18b1 : (a1 != 0) = false := bne_eq_false_iff_eq.mpr c18
                clear c18
                obtain rfl := Option.some.inj H
                go_wp2
                go_ret
                exact ⟨by first | rfl | (simp; done) | (simp [*]; done), by repeat (first | exact Drawn0.refl _ | apply Drawn0.step)⟩
              · rw [if_neg c18] at H
                have c18b0 : (a1 == 0) = false := beq_eq_false_iff_ne.mpr c18
                have c18b1 : (a1 != 0) = true := bne_iff_ne.mpr c18
                by_cases c19 : (a2.size : Int) > 1
                · rw [if_pos c19] at H
                  have c19b0 : decide (1 < (a2.size : Int)) = true := decide_eq_true c19
                  have c19b1 : decide (1 < a2.size) = true := decide_eq_true (by omega)
                  clear c19
                  by_cases c20 : 0 < (a2.size : Int)
                  · rw [if_pos c20] at H
                    have c20b0 : decide (0 < (a2.size : Int)) = true := decide_eq_true c20
                    have c20b1 : decide (0 < a2.size) = true := decide_eq_true (by omega)
                    clear c20
                    by_cases c22 : (bt a2 0) = 0
                    · rw [if_pos c22] at H
                      have c22b0 : ((bt a2 0) == 0) = true := beq_iff_eq.mpr c22
                      have c22b1 : ((bt a2 0) != 0) = false := bne_eq_false_iff_eq.mpr c22
                      clear c22
                      by_cases c23 : 1 < (a2.size : Int)
                      · rw [if_pos c23] at H
                        have c23b0 : decide (1 < (a2.size : Int)) = true := decide_eq_true c23
                        have c23b1 : decide (1 < a2.size) = true := decide_eq_true (by omega)
                        clear c23
                        by_cases c25 : (bt a2 1) < 128
                        · rw [if_pos c25] at H
                          have c25b0 : decide ((bt a2 1) < 128) = true := decide_eq_true c25
                          clear c25
                          obtain rfl := Option.some.inj H
                          have p21 : 0 ≤ (0 : Int) := (by omega)
                          have q21 : 0 < a2.size := (by have : (0 : Int) < (a2.size : Int) := of_decide_eq_true (by first | (with_reducible assumption) | assumption); omega)
                          have hx21 : ∀ h : 0 < a2.size, ((a2[0]'h).toNat : Int) = bt a2 0 := bt_at a2 0
                          clear p21
                          have qi21 : (0 < (a2.size : Int)) = True := eq_true (of_decide_eq_true (by first | (with_reducible assumption) | assumption))
                          replace q21 := eq_true q21
                          have p24 : 0 ≤ (1 : Int) := (by omega)
                          have q24 : 1 < a2.size := (by have : (1 : Int) < (a2.size : Int) := of_decide_eq_true (by first | (with_reducible assumption) | assumption); omega)
                          have hx24 : ∀ h : 1 < a2.size, ((a2[1]'h).toNat : Int) = bt a2 1 := bt_at a2 1
                          clear p24
                          have qi24 : (1 < (a2.size : Int)) = True := eq_true (of_decide_eq_true (by first | (with_reducible assumption) | assumption))
                          replace q24 := eq_true q24
                          go_wp2
                          go_ret
                          exact ⟨by first | rfl | (simp; done) | (simp [*]; done), by repeat (first | exact Drawn0.refl _ | apply Drawn0.step)⟩
                        · rw [if_neg c25] at H
                          have c25b0 : decide ((bt a2 1) < 128) = false := decide_eq_false c25
                          clear c25
                          by_cases c27 : (bt a2 0) = 255
                          · rw [if_pos c27] at H
                            have c27b0 : ((bt a2 0) == 255) = true := beq_iff_eq.mpr c27
                            have c27b1 : ((bt a2 0) != 255) = false := bne_eq_false_iff_eq.mpr c27
                            clear c27
                            by_cases c29 : (bt a2 1) > 127
                            · rw [if_pos c29] at H
                              have c29b0 : decide (127 < (bt a2 1)) = true := decide_eq_true c29
                              clear c29
                              obtain rfl := Option.some.inj H
                              have p21 : 0 ≤ (0 : Int) := (by omega)
                              have q21 : 0 < a2.size := (by have : (0 : Int) < (a2.size : Int) := of_decide_eq_true (by first | (with_reducible assumption) | assumption); omega)
                              have hx21 : ∀ h : 0 < a2.size, ((a2[0]'h).toNat : Int) = bt a2 0 := bt_at a2 0
                              clear p21
                              have qi21 : (0 < (a2.size : Int)) = True := eq_true (of_decide_eq_true (by first | (with_reducible assumption) | assumption))
                              replace q21 := eq_true q21
                              have p24 : 0 ≤ (1 : Int) := (by omega)
                              have q24 : 1 < a2.size := (by have : (1 : Int) < (a2.size : Int) := of_decide_eq_true (by first | (with_reducible assumption) | assumption); omega)
                              have hx24 : ∀ h : 1 < a2.size, ((a2[1]'h).toNat : Int) = bt a2 1 := bt_at a2 1
                              clear p24
                              have qi24 : (1 < (a2.size : Int)) = True := eq_true (of_decide_eq_true (by first | (with_reducible assumption) | assumption))
                              replace q24 := eq_true q24
                              have p26 : 0 ≤ (0 : Int) := (by omega)
                              have q26 : 0 < a2.size := (by have : (0 : Int) < (a2.size : Int) := of_decide_eq_true (by first | (with_reducible assumption) | assumption); omega)
                              have hx26 : ∀ h : 0 < a2.size, ((a2[0]'h).toNat : Int) = bt a2 0 := bt_at a2 0
                              clear p26
                              have qi26 : (0 < (a2.size : Int)) = True := eq_true (of_decide_eq_true (by first | (with_reducible assumption) | assumption))
                              replace q26 := eq_true q26
                              have p28 : 0 ≤ (1 : Int) := (by omega)
                              have q28 : 1 < a2.size := (by have : (1 : Int) < (a2.size : Int) := of_decide_eq_true (by first | (with_reducible assumption) | assumption); omega)
                              have hx28 : ∀ h : 1 < a2.size, ((a2[1]'h).toNat : Int) = bt a2 1 := bt_at a2 1
                              clear p28
                              have qi28 : (1 < (a2.size : Int)) = True := eq_true (of_decide_eq_true (by first | (with_reducible assumption) | assumption))
                              replace q28 := eq_true q28
                              go_wp2
                              go_ret
                              exact ⟨by first | rfl | (simp; done) | (simp [*]; done), by repeat (first | exact Drawn0.refl _ | apply Drawn0.step)⟩
                            · rw [if_neg c29] at H
                              have c29b0 : decide (127 < (bt a2 1)) = false := decide_eq_false c29
                              clear c29
                              obtain rfl := Option.some.inj H
                              have p21 : 0 ≤ (0 : Int) := (by omega)
                              have q21 : 0 < a2.size := (by have : (0 : Int) < (a2.size : Int) := of_decide_eq_true (by first | (with_reducible assumption) | assumption); omega)
                              have hx21 : ∀ h : 0 < a2.size, ((a2[0]'h).toNat : Int) = bt a2 0 := bt_at a2 0
                              clear p21
                              have qi21 : (0 < (a2.size : Int)) = True := eq_true (of_decide_eq_true (by first | (with_reducible assumption) | assumption))
                              replace q21 := eq_true q21
                              have p24 : 0 ≤ (1 : Int) := (by omega)
                              have q24 : 1 < a2.size := (by have : (1 : Int) < (a2.size : Int) := of_decide_eq_true (by first | (with_reducible assumption) | assumption); omega)
                              have hx24 : ∀ h : 1 < a2.size, ((a2[1]'h).toNat : Int) = bt a2 1 := bt_at a2 1
                              clear p24
                              have qi24 : (1 < (a2.size : Int)) = True := eq_true (of_decide_eq_true (by first | (with_reducible assumption) | assumption))
                              replace q24 := eq_true q24
                              have p26 : 0 ≤ (0 : Int) := (by omega)
                              have q26 : 0 < a2.size := (by have : (0 : Int) < (a2.size : Int) := of_decide_eq_true (by first | (with_reducible assumption) | assumption); omega)
                              have hx26 : ∀ h : 0 < a2.size, ((a2[0]'h).toNat : Int) = bt a2 0 := bt_at a2 0
                              clear p26
                              have qi26 : (0 < (a2.size : Int)) = True := eq_true (of_decide_eq_true (by first | (with_reducible assumption) | assumption))
                              replace q26 := eq_true q26
                              have p28 : 0 ≤ (1 : Int) := (by omega)
                              have q28 : 1 < a2.size := (by have : (1 : Int) < (a2.size : Int) := of_decide_eq_true (by first | (with_reducible assumption) | assumption); omega)
                              have hx28 : ∀ h : 1 < a2.size, ((a2[1]'h).toNat : Int) = bt a2 1 := bt_at a2 1
                              clear p28
                              have qi28 : (1 < (a2.size : Int)) = True := eq_true (of_decide_eq_true (by first | (with_reducible assumption) | assumption))
                              replace q28 := eq_true q28
                              go_wp2
                              go_ret
                              exact ⟨by first | rfl | (simp; done) | (simp [*]; done), by repeat (first | exact Drawn0.refl _ | apply Drawn0.step)⟩
                          · rw [if_neg c27] at H
                            have c27b0 : ((bt a2 0) == 255) = false := beq_eq_false_iff_ne.mpr c27
                            have c27b1 : ((bt a2 0) != 255) = true := bne_iff_ne.mpr c27
                            obtain rfl := Option.some.inj H
                            have p21 : 0 ≤ (0 : Int) := (by omega)
                            have q21 : 0 < a2.size := (by have : (0 : Int) < (a2.size : Int) := of_decide_eq_true (by first | (with_reducible assumption) | assumption); omega)
                            have hx21 : ∀ h : 0 < a2.size, ((a2[0]'h).toNat : Int) = bt a2 0 := bt_at a2 0
                            clear p21
                            have qi21 : (0 < (a2.size : Int)) = True := eq_true (of_decide_eq_true (by first | (with_reducible assumption) | assumption))
                            replace q21 := eq_true q21
                            have p24 : 0 ≤ (1 : Int) := (by omega)
                            have q24 : 1 < a2.size := (by have : (1 : Int) < (a2.size : Int) := of_decide_eq_true (by first | (with_reducible assumption) | assumption); omega)
                            have hx24 : ∀ h : 1 < a2.size, ((a2[1]'h).toNat : Int) = bt a2 1 := bt_at a2 1
                            clear p24
                            have qi24 : (1 < (a2.size : Int)) = True := eq_true (of_decide_eq_true (by first | (with_reducible assumption) | assumption))
                            replace q24 := eq_true q24
                            have p26 : 0 ≤ (0 : Int) := (by omega)
                            have q26 : 0 < a2.size := (by have : (0 : Int) < (a2.size : Int) := of_decide_eq_true (by first | (with_reducible assumption) | assumption); omega)
                            have hx26 : ∀ h : 0 < a2.size, ((a2[0]'h).toNat : Int) = bt a2 0 := bt_at a2 0
                            clear p26
                            have qi26 : (0 < (a2.size : Int)) = True := eq_true (of_decide_eq_true (by first | (with_reducible assumption) | assumption))
                            replace q26 := eq_true q26
                            go_wp2
                            go_ret
                            exact ⟨by first | rfl | (simp; done) | (simp [*]; done), by repeat (first | exact Drawn0.refl _ | apply Drawn0.step)⟩
                      · rw [if_neg c23] at H
                        exact absurd H (by simp)
                    · rw [if_neg c22] at H
                      have c22b0 : ((bt a2 0) == 0) = false := beq_eq_false_iff_ne.mpr c22
                      have c22b1 : ((bt a2 0) != 0) = true := bne_iff_ne.mpr c22
                      by_cases c31 : (bt a2 0) = 255
                      · rw [if_pos c31] at H
                        have c31b0 : ((bt a2 0) == 255) = true := beq_iff_eq.mpr c31
                        have c31b1 : ((bt a2 0) != 255) = false := bne_eq_false_iff_eq.mpr c31
                        clear c31
                        by_cases c32 : 1 < (a2.size : Int)
                        · rw [if_pos c32] at H
                          have c32b0 : decide (1 < (a2.size : Int)) = true := decide_eq_true c32
                          have c32b1 : decide (1 < a2.size) = true := decide_eq_true (by omega)
                          clear c32
                          by_cases c34 : (bt a2 1) > 127
                          · rw [if_pos c34] at H
                            have c34b0 : decide (127 < (bt a2 1)) = true := decide_eq_true c34
                            clear c34
                            obtain rfl := Option.some.inj H
                            have p21 : 0 ≤ (0 : Int) := (by omega)
                            have q21 : 0 < a2.size := (by have : (0 : Int) < (a2.size : Int) := of_decide_eq_true (by first | (with_reducible assumption) | assumption); omega)
                            have hx21 : ∀ h : 0 < a2.size, ((a2[0]'h).toNat : Int) = bt a2 0 := bt_at a2 0
                            clear p21
                            have qi21 : (0 < (a2.size : Int)) = True := eq_true (of_decide_eq_true (by first | (with_reducible assumption) | assumption))
                            replace q21 := eq_true q21
                            have p30 : 0 ≤ (0 : Int) := (by omega)
                            have q30 : 0 < a2.size := (by have : (0 : Int) < (a2.size : Int) := of_decide_eq_true (by first | (with_reducible assumption) | assumption); omega)
                            have hx30 : ∀ h : 0 < a2.size, ((a2[0]'h).toNat : Int) = bt a2 0 := bt_at a2 0
                            clear p30
                            have qi30 : (0 < (a2.size : Int)) = True := eq_true (of_decide_eq_true (by first | (with_reducible assumption) | assumption))
                            replace q30 := eq_true q30
                            have p33 : 0 ≤ (1 : Int) := (by omega)
                            have q33 : 1 < a2.size := (by have : (1 : Int) < (a2.size : Int) := of_decide_eq_true (by first | (with_reducible assumption) | assumption); omega)
                            have hx33 : ∀ h : 1 < a2.size, ((a2[1]'h).toNat : Int) = bt a2 1 := bt_at a2 1
                            clear p33
                            have qi33 : (1 < (a2.size : Int)) = True := eq_true (of_decide_eq_true (by first | (with_reducible assumption) | assumption))
                            replace q33 := eq_true q33
                            go_wp2
                            go_ret
                            exact ⟨by first | rfl | (simp; done) | (simp [*]; done), by repeat (first | exact Drawn0.refl _ | apply Drawn0.step)⟩
                          · rw [if_neg c34] at H
                            have c34b0 : decide (127 < (bt a2 1)) = false := decide_eq_false c34
                            clear c34
                            obtain rfl := Option.some.inj H
                            have p21 : 0 ≤ (0 : Int) := (by omega)
                            have q21 : 0 < a2.size := (by have : (0 : Int) < (a2.size : Int) := of_decide_eq_true (by first | (with_reducible assumption) | assumption); omega)
                            have hx21 : ∀ h : 0 < a2.size, ((a2[0]'h).toNat : Int) = bt a2 0 := bt_at a2 0
                            clear p21
                            have qi21 : (0 < (a2.size : Int)) = True := eq_true (of_decide_eq_true (by first | (with_reducible assumption) | assumption))
                            replace q21 := eq_true q21
                            have p30 : 0 ≤ (0 : Int) := (by omega)
                            have q30 : 0 < a2.size := (by have : (0 : Int) < (a2.size : Int) := of_decide_eq_true (by first | (with_reducible assumption) | assumption); omega)
                            have hx30 : ∀ h : 0 < a2.size, ((a2[0]'h).toNat : Int) = bt a2 0 := bt_at a2 0
                            clear p30
                            have qi30 : (0 < (a2.size : Int)) = True := eq_true (of_decide_eq_true (by first | (with_reducible assumption) | assumption))
                            replace q30 := eq_true q30
                            have p33 : 0 ≤ (1 : Int) := (by omega)
                            have q33 : 1 < a2.size := (by have : (1 : Int) < (a2.size : Int) := of_decide_eq_true (by first | (with_reducible assumption) | assumption); omega)
                            have hx33 : ∀ h : 1 < a2.size, ((a2[1]'h).toNat : Int) = bt a2 1 := bt_at a2 1
                            clear p33
                            have qi33 : (1 < (a2.size : Int)) = True := eq_true (of_decide_eq_true (by first | (with_reducible assumption) | assumption))
                            replace q33 := eq_true q33
                            go_wp2
                            go_ret
                            exact ⟨by first | rfl | (simp; done) | (simp [*]; done), by repeat (first | exact Drawn0.refl _ | apply Drawn0.step)⟩
                        · rw [if_neg c32] at H
                          exact absurd H (by simp)
                      · rw [if_neg c31] at H
                        have c31b0 : ((bt a2 0) == 255) = false := beq_eq_false_iff_ne.mpr c31
                        have c31b1 : ((bt a2 0) != 255) = true := bne_iff_ne.mpr c31
                        obtain rfl := Option.some.inj H
                        have p21 : 0 ≤ (0 : Int) := (by omega)
                        have q21 : 0 < a2.size := (by have : (0 : Int) < (a2.size : Int) := of_decide_eq_true (by first | (with_reducible assumption) | assumption); omega)
                        have hx21 : ∀ h : 0 < a2.size, ((a2[0]'h).toNat : Int) = bt a2 0 := bt_at a2 0
                        clear p21
                        have qi21 : (0 < (a2.size : Int)) = True := eq_true (of_decide_eq_true (by first | (with_reducible assumption) | assumption))
                        replace q21 := eq_true q21
                        have p30 : 0 ≤ (0 : Int) := (by omega)
                        have q30 : 0 < a2.size := (by have : (0 : Int) < (a2.size : Int) := of_decide_eq_true (by first | (with_reducible assumption) | assumption); omega)
                        have hx30 : ∀ h : 0 < a2.size, ((a2[0]'h).toNat : Int) = bt a2 0 := bt_at a2 0
                        clear p30
                        have qi30 : (0 < (a2.size : Int)) = True := eq_true (of_decide_eq_true (by first | (with_reducible assumption) | assumption))
                        replace q30 := eq_true q30
                        go_wp2
                        go_ret
                        exact ⟨by first | rfl | (simp; done) | (simp [*]; done), by repeat (first | exact Drawn0.refl _ | apply Drawn0.step)⟩
                  · rw [if_neg c20] at H
                    exact absurd H (by simp)
                · rw [if_neg c19] at H
                  have c19b0 : decide (1 < (a2.size : Int)) = false := decide_eq_false c19
                  have c19b1 : decide (1 < a2.size) = false := decide_eq_false (by omega)
                  clear c19
                  obtain rfl := Option.some.inj H
                  go_wp2
                  go_ret
                  exact ⟨by first | rfl | (simp; done) | (simp [*]; done), by repeat (first | exact Drawn0.refl _ | apply Drawn0.step)⟩

end Go.Proofs.Ytghkfoaiieajhaa.PA
