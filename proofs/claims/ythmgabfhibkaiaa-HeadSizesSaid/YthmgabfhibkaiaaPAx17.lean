-- Written by a program of this session (print2, a turned print): not PRINTED BY print.sh
import Derived.Test.YthmgabfhibkaiaaPAx0
import Derived.Test.YthmgabfhibkaiaaPAx3
import Derived.Test.YthmgabfhibkaiaaPAx10
namespace Go.Proofs.Ythmgabfhibkaiaa.PA
open Go.RowKit Go.Proofs.YthmgabfhibkaiaaW.PrintWords Go.Proofs.YthmgabfhibkaiaaW.PrintLast Go.Proofs.YthmgabfhibkaiaaW.PrintMore
attribute [local go_sem] max2_int min2_int max_two min_two max_three min_three max_four min_four   -- for this text's walks alone
set_option linter.unusedVariables false
set_option linter.unusedSimpArgs false

/-! ### gantletlaw07_HeadSizes: function 8 -/
def gantletlaw07_HeadSizes.j0 : Nat → ByteArray → ByteArray → Bool → Int → Int → Bool → Int → Option (Bool)
  | 0, _, _, _, _, _, _, _ => none
  | k + 1, x5, x7, x32, x242000, x242001, x242002, x242003 => if x32 = true then ((gantletlaw07_awake.f).bind fun t247 => (some t247)) else ((head_Put.f k x242000 x242001 x242002 0).bind fun bt248 => (if (x5.size : Int) ≥ 2 then (if (x5.size : Int) ≤ 14 then (if (bt248.1.size : Int) ≥ 2 then (if (bt248.1.size : Int) ≤ (x5.size : Int) then (if (bt248.1.size : Int) ≤ (x7.size : Int) then (if 0 ≤ (wrap64 ((bt248.1.size : Int) - 1)) then (if (wrap64 ((bt248.1.size : Int) - 1)) ≤ (x5.size : Int) then (if (wrap64 ((bt248.1.size : Int) - 1)) ≤ (bt248.1.size : Int) then (if (x5.extract 0 ((wrap64 ((bt248.1.size : Int) - 1)) : Int).toNat).toList = (bt248.1.extract 0 ((wrap64 ((bt248.1.size : Int) - 1)) : Int).toNat).toList then (if (wrap64 ((bt248.1.size : Int) - 1)) ≤ (x7.size : Int) then (some ((x7.extract 0 ((wrap64 ((bt248.1.size : Int) - 1)) : Int).toNat).toList == (bt248.1.extract 0 ((wrap64 ((bt248.1.size : Int) - 1)) : Int).toNat).toList)) else (none)) else (none)) else (none)) else (none)) else (none)) else (none)) else (none)) else (none)) else (none)) else (none)))
def gantletlaw07_HeadSizes.f (k : Nat) (a0_0 : Int) (a0_1 : Int) (a0_2 : Bool) (a0_3 : Int) (a1 : Int) : Option (Bool) := (head_Put.f k a0_0 a0_1 a0_2 a0_3).bind fun bt242 => ((head_Put.f k a0_0 a0_1 a0_2 a1).bind fun bt244 => ((gantletlaw07_awake.f).bind fun t246 => (if t246 = true then (if bt242.2 = 0 then (gantletlaw07_HeadSizes.j0 k bt242.1 bt244.1 (bt244.2 != 0) a0_0 a0_1 a0_2 a1) else (gantletlaw07_HeadSizes.j0 k bt242.1 bt244.1 true a0_0 a0_1 a0_2 a1)) else (gantletlaw07_HeadSizes.j0 k bt242.1 bt244.1 true a0_0 a0_1 a0_2 a1))))
theorem gantletlaw07_HeadSizes.mono_l : ∀ k, (∀ y0 y1 y2 y3 y4 y5 y6, LeO (gantletlaw07_HeadSizes.j0 k y0 y1 y2 y3 y4 y5 y6) (gantletlaw07_HeadSizes.j0 (k + 1) y0 y1 y2 y3 y4 y5 y6))
  | 0 => fun _ _ _ _ _ _ _ r h => by simp [gantletlaw07_HeadSizes.j0] at h
  | k + 1 => by
    have ih0 := gantletlaw07_HeadSizes.mono_l k
    · intro y0 y1 y2 y3 y4 y5 y6
      unfold gantletlaw07_HeadSizes.j0
      repeat' first
      | (with_reducible exact ih0 _ _ _ _ _ _ _)
      | (with_reducible exact head_Put.mono _ _ _ _ _)
      | (with_reducible exact LeO.refl _)
      | (with_reducible exact LeO.none _)
      | (with_reducible refine LeO.ite ?_ ?_)
      | (with_reducible refine LeO.bind ?_ (fun _ => ?_))
      | exact ih0 _ _ _ _ _ _ _
      | exact head_Put.mono _ _ _ _ _
      | exact LeO.none _
      | refine LeO.ite ?_ ?_
      | refine LeO.bind ?_ (fun _ => ?_)
theorem gantletlaw07_HeadSizes.mono : ∀ a0 a1 a2 a3 a4 k, LeO (gantletlaw07_HeadSizes.f k a0 a1 a2 a3 a4) (gantletlaw07_HeadSizes.f (k + 1) a0 a1 a2 a3 a4) := by
  intro a0 a1 a2 a3 a4 k
  have ih0 := gantletlaw07_HeadSizes.mono_l k
  unfold gantletlaw07_HeadSizes.f
  repeat' first
      | (with_reducible exact ih0 _ _ _ _ _ _ _)
      | (with_reducible exact head_Put.mono _ _ _ _ _)
      | (with_reducible exact LeO.refl _)
      | (with_reducible exact LeO.none _)
      | (with_reducible refine LeO.ite ?_ ?_)
      | (with_reducible refine LeO.bind ?_ (fun _ => ?_))
      | exact ih0 _ _ _ _ _ _ _
      | exact head_Put.mono _ _ _ _ _
      | exact LeO.none _
      | refine LeO.ite ?_ ?_
      | refine LeO.bind ?_ (fun _ => ?_)
set_option maxHeartbeats 8000000 in
set_option maxRecDepth 100000 in
theorem gantletlaw07_HeadSizes.calls (k : Nat) (a0_0 : Int) (a0_1 : Int) (a0_2 : Bool) (a0_3 : Int) (a1 : Int) (r : Bool) (w : World) (h : gantletlaw07_HeadSizes.f k a0_0 a0_1 a0_2 a0_3 a1 = some r) :
    Calls Try.prog 8 #[.agg #[.int .i64 a0_0, .int .i64 a0_1, .bool a0_2, .int .i64 a0_3], .int .i64 a1] w fun e w' => e = .returned (.bool r) ∧ Below w.heap.size w w' := by
  have hu23 := Try.underlying23
  have HB := Aside0.mk (Below.refl w.heap.size w)
  have H : ((head_Put.f k a0_0 a0_1 a0_2 a0_3).bind fun bt242 => ((head_Put.f k a0_0 a0_1 a0_2 a1).bind fun bt244 => ((gantletlaw07_awake.f).bind fun t246 => (if t246 = true then (if bt242.2 = 0 then (gantletlaw07_HeadSizes.j0 k bt242.1 bt244.1 (bt244.2 != 0) a0_0 a0_1 a0_2 a1) else (gantletlaw07_HeadSizes.j0 k bt242.1 bt244.1 true a0_0 a0_1 a0_2 a1)) else (gantletlaw07_HeadSizes.j0 k bt242.1 bt244.1 true a0_0 a0_1 a0_2 a1))))) = some r := h
  clear h
  replace H := Option.bind_eq_some_iff.mp H
  obtain ⟨⟨t242, t243⟩, A30, H⟩ := H
  replace H : ((head_Put.f k a0_0 a0_1 a0_2 a1).bind fun bt244 => ((gantletlaw07_awake.f).bind fun t246 => (if t246 = true then (if t243 = 0 then (gantletlaw07_HeadSizes.j0 k t242 bt244.1 (bt244.2 != 0) a0_0 a0_1 a0_2 a1) else (gantletlaw07_HeadSizes.j0 k t242 bt244.1 true a0_0 a0_1 a0_2 a1)) else (gantletlaw07_HeadSizes.j0 k t242 bt244.1 true a0_0 a0_1 a0_2 a1)))) = some r := H
  have A3 := Aside0.mk A30
  clear A30
  replace H := Option.bind_eq_some_iff.mp H
  obtain ⟨⟨t244, t245⟩, A40, H⟩ := H
  replace H : ((gantletlaw07_awake.f).bind fun t246 => (if t246 = true then (if t243 = 0 then (gantletlaw07_HeadSizes.j0 k t242 t244 (t245 != 0) a0_0 a0_1 a0_2 a1) else (gantletlaw07_HeadSizes.j0 k t242 t244 true a0_0 a0_1 a0_2 a1)) else (gantletlaw07_HeadSizes.j0 k t242 t244 true a0_0 a0_1 a0_2 a1))) = some r := H
  have A4 := Aside0.mk A40
  clear A40
  have HC5 := Aside0.mk H
  clear H
  go_enter Try.func8, Try.ntmps8
  go_upto_region 4 with (first | ((with_reducible refine gate_dst (N := 2) rfl ?_); (try (refine gate_guard (by rfl) ?_; dsimp only)); refine box_event ?hg (N := 2) ?hd (cs := #[.int .i64 a0_0, .int .i64 a0_1, .bool a0_2, .int .i64 a0_3]) (t := 23) ?hr ?_; (case hd => rfl); (case hg => rfl); (case hr => first | (go_simp; done) | (go_simp; rfl)); intro gb241 hg w6 hbox hb; have n0_ := Aside0.mk (below_step (by repeat (first | (with_reducible first | exact HB.out | apply below_alloc | apply pw_below_drewN | apply below_drew1) | exact HB.out)) hb); have n1_ := Aside0.mk (hbox); have n2_ := Aside0.mk ((by rw [hg]; exact (below_size (by repeat (first | (with_reducible first | exact HB.out | apply below_alloc | apply pw_below_drewN | apply below_drew1) | exact HB.out))) : w.heap.size ≤ gb241)); have n3_ := Aside0.mk ((by rw [hg]; exact (below_size (by repeat (first | (with_reducible first | exact HB.out | apply below_alloc | apply pw_below_drewN | apply below_drew1) | exact HB.out))) : w.heap.size ≤ gb241)); clear HB; have HB := n0_; have BK241 := n1_; have GW241 := n2_; have GE241 := n3_; clear n0_ n1_ n2_ n3_; clear hb hbox hg; have hcz7_0 : w6.cell? ⟨gb241, 0, none⟩ = some (.int .i64 a0_0) := (blk_cell BK241.out 0).trans rfl; have hcz7_1 : w6.cell? ⟨gb241, 1, none⟩ = some (.int .i64 a0_1) := (blk_cell BK241.out 1).trans rfl; have hcz7_2 : w6.cell? ⟨gb241, 2, none⟩ = some (.bool a0_2) := (blk_cell BK241.out 2).trans rfl; have hcz7_3 : w6.cell? ⟨gb241, 3, none⟩ = some (.int .i64 a0_3) := (blk_cell BK241.out 3).trans rfl; have hfz7_0 := blk_frozen BK241.out 0; have hfz7_1 := blk_frozen BK241.out 1; have hfz7_2 := blk_frozen BK241.out 2; have hfz7_3 := blk_frozen BK241.out 3) | (go_at_call 9; (with_reducible refine (head_Put.calls k a0_0 a0_1 a0_2 a0_3 t242 t243 _ A3.out).mono ?_); rintro e w8 ⟨rfl, hb⟩; have n0_ := Aside0.mk (blk_below (g := gb241) (o := .cells #[.int .i64 a0_0, .int .i64 a0_1, .bool a0_2, .int .i64 a0_3] 23 (0, 0)) (by (with_reducible repeat (first | refine blk_drewN ?_ _ | refine blk_drew ?_ | refine blk_alloc ?_ _)); exact BK241.out) hb); have n1_ := Aside0.mk (below_step (by repeat (first | (with_reducible first | exact HB.out | apply below_alloc | apply pw_below_drewN | apply below_drew1 | refine below_set ?_ GE241.out) | exact HB.out)) hb); clear BK241; clear HB; have BK241 := n0_; have HB := n1_; clear n0_ n1_; (try clear hb); (try clear hb2); (try clear hk); (try clear hi); have hcz9_0 : w8.cell? ⟨gb241, 0, none⟩ = some (.int .i64 a0_0) := (blk_cell BK241.out 0).trans rfl; have hcz9_1 : w8.cell? ⟨gb241, 1, none⟩ = some (.int .i64 a0_1) := (blk_cell BK241.out 1).trans rfl; have hcz9_2 : w8.cell? ⟨gb241, 2, none⟩ = some (.bool a0_2) := (blk_cell BK241.out 2).trans rfl; have hcz9_3 : w8.cell? ⟨gb241, 3, none⟩ = some (.int .i64 a0_3) := (blk_cell BK241.out 3).trans rfl; have hfz9_0 := blk_frozen BK241.out 0; have hfz9_1 := blk_frozen BK241.out 1; have hfz9_2 := blk_frozen BK241.out 2; have hfz9_3 := blk_frozen BK241.out 3) | (go_at_call 9; (with_reducible refine (head_Put.calls k a0_0 a0_1 a0_2 a1 t244 t245 _ A4.out).mono ?_); rintro e w10 ⟨rfl, hb⟩; have n0_ := Aside0.mk (blk_below (g := gb241) (o := .cells #[.int .i64 a0_0, .int .i64 a0_1, .bool a0_2, .int .i64 a1] 23 (0, 0)) (by (with_reducible repeat (first | refine blk_drewN ?_ _ | refine blk_drew ?_ | refine blk_alloc ?_ _)); refine blk_put (cs := #[.int .i64 a0_0, .int .i64 a0_1, .bool a0_2, .int .i64 a0_3]) ?_ 3 _ rfl; (with_reducible repeat (first | refine blk_drewN ?_ _ | refine blk_drew ?_ | refine blk_alloc ?_ _)); exact BK241.out) hb); have n1_ := Aside0.mk (below_step (by repeat (first | (with_reducible first | exact HB.out | apply below_alloc | apply pw_below_drewN | apply below_drew1 | refine below_set ?_ GE241.out) | exact HB.out)) hb); clear BK241; clear HB; have BK241 := n0_; have HB := n1_; clear n0_ n1_; (try clear hb); (try clear hb2); (try clear hk); (try clear hi)))
  repeat (go_quiet (first | ((with_reducible refine gate_dst (N := 2) rfl ?_); (try (refine gate_guard (by rfl) ?_; dsimp only)); refine box_event ?hg (N := 2) ?hd (cs := #[.int .i64 a0_0, .int .i64 a0_1, .bool a0_2, .int .i64 a0_3]) (t := 23) ?hr ?_; (case hd => rfl); (case hg => rfl); (case hr => first | (go_simp; done) | (go_simp; rfl)); intro gb241 hg w6 hbox hb; have n0_ := Aside0.mk (below_step (by repeat (first | (with_reducible first | exact HB.out | apply below_alloc | apply pw_below_drewN | apply below_drew1) | exact HB.out)) hb); have n1_ := Aside0.mk (hbox); have n2_ := Aside0.mk ((by rw [hg]; exact (below_size (by repeat (first | (with_reducible first | exact HB.out | apply below_alloc | apply pw_below_drewN | apply below_drew1) | exact HB.out))) : w.heap.size ≤ gb241)); have n3_ := Aside0.mk ((by rw [hg]; exact (below_size (by repeat (first | (with_reducible first | exact HB.out | apply below_alloc | apply pw_below_drewN | apply below_drew1) | exact HB.out))) : w.heap.size ≤ gb241)); clear HB; have HB := n0_; have BK241 := n1_; have GW241 := n2_; have GE241 := n3_; clear n0_ n1_ n2_ n3_; clear hb hbox hg; have hcz7_0 : w6.cell? ⟨gb241, 0, none⟩ = some (.int .i64 a0_0) := (blk_cell BK241.out 0).trans rfl; have hcz7_1 : w6.cell? ⟨gb241, 1, none⟩ = some (.int .i64 a0_1) := (blk_cell BK241.out 1).trans rfl; have hcz7_2 : w6.cell? ⟨gb241, 2, none⟩ = some (.bool a0_2) := (blk_cell BK241.out 2).trans rfl; have hcz7_3 : w6.cell? ⟨gb241, 3, none⟩ = some (.int .i64 a0_3) := (blk_cell BK241.out 3).trans rfl; have hfz7_0 := blk_frozen BK241.out 0; have hfz7_1 := blk_frozen BK241.out 1; have hfz7_2 := blk_frozen BK241.out 2; have hfz7_3 := blk_frozen BK241.out 3) | (go_at_call 9; (with_reducible refine (head_Put.calls k a0_0 a0_1 a0_2 a0_3 t242 t243 _ A3.out).mono ?_); rintro e w8 ⟨rfl, hb⟩; have n0_ := Aside0.mk (blk_below (g := gb241) (o := .cells #[.int .i64 a0_0, .int .i64 a0_1, .bool a0_2, .int .i64 a0_3] 23 (0, 0)) (by (with_reducible repeat (first | refine blk_drewN ?_ _ | refine blk_drew ?_ | refine blk_alloc ?_ _)); exact BK241.out) hb); have n1_ := Aside0.mk (below_step (by repeat (first | (with_reducible first | exact HB.out | apply below_alloc | apply pw_below_drewN | apply below_drew1 | refine below_set ?_ GE241.out) | exact HB.out)) hb); clear BK241; clear HB; have BK241 := n0_; have HB := n1_; clear n0_ n1_; (try clear hb); (try clear hb2); (try clear hk); (try clear hi); have hcz9_0 : w8.cell? ⟨gb241, 0, none⟩ = some (.int .i64 a0_0) := (blk_cell BK241.out 0).trans rfl; have hcz9_1 : w8.cell? ⟨gb241, 1, none⟩ = some (.int .i64 a0_1) := (blk_cell BK241.out 1).trans rfl; have hcz9_2 : w8.cell? ⟨gb241, 2, none⟩ = some (.bool a0_2) := (blk_cell BK241.out 2).trans rfl; have hcz9_3 : w8.cell? ⟨gb241, 3, none⟩ = some (.int .i64 a0_3) := (blk_cell BK241.out 3).trans rfl; have hfz9_0 := blk_frozen BK241.out 0; have hfz9_1 := blk_frozen BK241.out 1; have hfz9_2 := blk_frozen BK241.out 2; have hfz9_3 := blk_frozen BK241.out 3) | (go_at_call 9; (with_reducible refine (head_Put.calls k a0_0 a0_1 a0_2 a1 t244 t245 _ A4.out).mono ?_); rintro e w10 ⟨rfl, hb⟩; have n0_ := Aside0.mk (blk_below (g := gb241) (o := .cells #[.int .i64 a0_0, .int .i64 a0_1, .bool a0_2, .int .i64 a1] 23 (0, 0)) (by (with_reducible repeat (first | refine blk_drewN ?_ _ | refine blk_drew ?_ | refine blk_alloc ?_ _)); refine blk_put (cs := #[.int .i64 a0_0, .int .i64 a0_1, .bool a0_2, .int .i64 a0_3]) ?_ 3 _ rfl; (with_reducible repeat (first | refine blk_drewN ?_ _ | refine blk_drew ?_ | refine blk_alloc ?_ _)); exact BK241.out) hb); have n1_ := Aside0.mk (below_step (by repeat (first | (with_reducible first | exact HB.out | apply below_alloc | apply pw_below_drewN | apply below_drew1 | refine below_set ?_ GE241.out) | exact HB.out)) hb); clear BK241; clear HB; have BK241 := n0_; have HB := n1_; clear n0_ n1_; (try clear hb); (try clear hb2); (try clear hk); (try clear hi))); go_upto_region 4 with (first | ((with_reducible refine gate_dst (N := 2) rfl ?_); (try (refine gate_guard (by rfl) ?_; dsimp only)); refine box_event ?hg (N := 2) ?hd (cs := #[.int .i64 a0_0, .int .i64 a0_1, .bool a0_2, .int .i64 a0_3]) (t := 23) ?hr ?_; (case hd => rfl); (case hg => rfl); (case hr => first | (go_simp; done) | (go_simp; rfl)); intro gb241 hg w6 hbox hb; have n0_ := Aside0.mk (below_step (by repeat (first | (with_reducible first | exact HB.out | apply below_alloc | apply pw_below_drewN | apply below_drew1) | exact HB.out)) hb); have n1_ := Aside0.mk (hbox); have n2_ := Aside0.mk ((by rw [hg]; exact (below_size (by repeat (first | (with_reducible first | exact HB.out | apply below_alloc | apply pw_below_drewN | apply below_drew1) | exact HB.out))) : w.heap.size ≤ gb241)); have n3_ := Aside0.mk ((by rw [hg]; exact (below_size (by repeat (first | (with_reducible first | exact HB.out | apply below_alloc | apply pw_below_drewN | apply below_drew1) | exact HB.out))) : w.heap.size ≤ gb241)); clear HB; have HB := n0_; have BK241 := n1_; have GW241 := n2_; have GE241 := n3_; clear n0_ n1_ n2_ n3_; clear hb hbox hg; have hcz7_0 : w6.cell? ⟨gb241, 0, none⟩ = some (.int .i64 a0_0) := (blk_cell BK241.out 0).trans rfl; have hcz7_1 : w6.cell? ⟨gb241, 1, none⟩ = some (.int .i64 a0_1) := (blk_cell BK241.out 1).trans rfl; have hcz7_2 : w6.cell? ⟨gb241, 2, none⟩ = some (.bool a0_2) := (blk_cell BK241.out 2).trans rfl; have hcz7_3 : w6.cell? ⟨gb241, 3, none⟩ = some (.int .i64 a0_3) := (blk_cell BK241.out 3).trans rfl; have hfz7_0 := blk_frozen BK241.out 0; have hfz7_1 := blk_frozen BK241.out 1; have hfz7_2 := blk_frozen BK241.out 2; have hfz7_3 := blk_frozen BK241.out 3) | (go_at_call 9; (with_reducible refine (head_Put.calls k a0_0 a0_1 a0_2 a0_3 t242 t243 _ A3.out).mono ?_); rintro e w8 ⟨rfl, hb⟩; have n0_ := Aside0.mk (blk_below (g := gb241) (o := .cells #[.int .i64 a0_0, .int .i64 a0_1, .bool a0_2, .int .i64 a0_3] 23 (0, 0)) (by (with_reducible repeat (first | refine blk_drewN ?_ _ | refine blk_drew ?_ | refine blk_alloc ?_ _)); exact BK241.out) hb); have n1_ := Aside0.mk (below_step (by repeat (first | (with_reducible first | exact HB.out | apply below_alloc | apply pw_below_drewN | apply below_drew1 | refine below_set ?_ GE241.out) | exact HB.out)) hb); clear BK241; clear HB; have BK241 := n0_; have HB := n1_; clear n0_ n1_; (try clear hb); (try clear hb2); (try clear hk); (try clear hi); have hcz9_0 : w8.cell? ⟨gb241, 0, none⟩ = some (.int .i64 a0_0) := (blk_cell BK241.out 0).trans rfl; have hcz9_1 : w8.cell? ⟨gb241, 1, none⟩ = some (.int .i64 a0_1) := (blk_cell BK241.out 1).trans rfl; have hcz9_2 : w8.cell? ⟨gb241, 2, none⟩ = some (.bool a0_2) := (blk_cell BK241.out 2).trans rfl; have hcz9_3 : w8.cell? ⟨gb241, 3, none⟩ = some (.int .i64 a0_3) := (blk_cell BK241.out 3).trans rfl; have hfz9_0 := blk_frozen BK241.out 0; have hfz9_1 := blk_frozen BK241.out 1; have hfz9_2 := blk_frozen BK241.out 2; have hfz9_3 := blk_frozen BK241.out 3) | (go_at_call 9; (with_reducible refine (head_Put.calls k a0_0 a0_1 a0_2 a1 t244 t245 _ A4.out).mono ?_); rintro e w10 ⟨rfl, hb⟩; have n0_ := Aside0.mk (blk_below (g := gb241) (o := .cells #[.int .i64 a0_0, .int .i64 a0_1, .bool a0_2, .int .i64 a1] 23 (0, 0)) (by (with_reducible repeat (first | refine blk_drewN ?_ _ | refine blk_drew ?_ | refine blk_alloc ?_ _)); refine blk_put (cs := #[.int .i64 a0_0, .int .i64 a0_1, .bool a0_2, .int .i64 a0_3]) ?_ 3 _ rfl; (with_reducible repeat (first | refine blk_drewN ?_ _ | refine blk_drew ?_ | refine blk_alloc ?_ _)); exact BK241.out) hb); have n1_ := Aside0.mk (below_step (by repeat (first | (with_reducible first | exact HB.out | apply below_alloc | apply pw_below_drewN | apply below_drew1 | refine below_set ?_ GE241.out) | exact HB.out)) hb); clear BK241; clear HB; have BK241 := n0_; have HB := n1_; clear n0_ n1_; (try clear hb); (try clear hb2); (try clear hk); (try clear hi))))
  (try simp only [Act.put, List.setIfInBounds_toArray, List.set_cons_zero, List.set_cons_succ])
  go_cut [32] (fun v32 wc => ∃ (kq : Nat) (x32_4 : Bool), v32 = .bool x32_4 ∧ Aside0 (gantletlaw07_HeadSizes.j0 kq t242 t244 x32_4 a0_0 a0_1 a0_2 a1 = some r) ∧ Aside0 (kq ≤ k) ∧ Aside0 (wc.heap[gb241]? = some (.cells #[.int .i64 a0_0, .int .i64 a0_1, .bool a0_2, .int .i64 a1] 23 (0, 0))) ∧ Aside0 (Below w.heap.size w wc))
  case first =>
    have H := HC5.out
    clear HC5
    replace H := Option.bind_eq_some_iff.mp H
    obtain ⟨t246, A110, H⟩ := H
    replace H : (if t246 = true then (if t243 = 0 then (gantletlaw07_HeadSizes.j0 k t242 t244 (t245 != 0) a0_0 a0_1 a0_2 a1) else (gantletlaw07_HeadSizes.j0 k t242 t244 true a0_0 a0_1 a0_2 a1)) else (gantletlaw07_HeadSizes.j0 k t242 t244 true a0_0 a0_1 a0_2 a1)) = some r := H
    have A11 := Aside0.mk A110
    clear A110
    by_cases c12 : t246 = true
    · subst c12
      have H1 : (if t243 = 0 then (gantletlaw07_HeadSizes.j0 k t242 t244 (t245 != 0) a0_0 a0_1 a0_2 a1) else (gantletlaw07_HeadSizes.j0 k t242 t244 true a0_0 a0_1 a0_2 a1)) = some r := by rw [if_pos rfl] at H; exact H
      clear H
      have H := H1
      clear H1
      by_cases c13 : t243 = 0
      · rw [if_pos c13] at H
        have c13b0 : (t243 == 0) = true := beq_iff_eq.mpr c13
        have c13b1 : (t243 != 0) = false := bne_eq_false_iff_eq.mpr c13
        clear c13
        (first | rw [c13b0] | (simp only [i64_w, i32_w]; rw [c13b0]) | skip)
        have H' := Aside0.mk H
        clear H
        go_wp2_with (first | (go_at_call 11; (with_reducible refine (gantletlaw07_awake.calls  true _ A11.out).mono ?_); rintro e w14 ⟨rfl, hb⟩; have n0_ := Aside0.mk (blk_below (g := gb241) (o := .cells #[.int .i64 a0_0, .int .i64 a0_1, .bool a0_2, .int .i64 a1] 23 (0, 0)) (by (with_reducible repeat (first | refine blk_drewN ?_ _ | refine blk_drew ?_ | refine blk_alloc ?_ _)); exact BK241.out) hb); have n1_ := Aside0.mk (below_step (by repeat (first | (with_reducible first | exact HB.out | apply below_alloc | apply pw_below_drewN | apply below_drew1 | refine below_set ?_ GE241.out) | exact HB.out)) hb); clear BK241; clear HB; have BK241 := n0_; have HB := n1_; clear n0_ n1_; (try clear hb); (try clear hb2); (try clear hk); (try clear hi)))
        repeat (go_quiet (first | (go_at_call 11; (with_reducible refine (gantletlaw07_awake.calls  true _ A11.out).mono ?_); rintro e w14 ⟨rfl, hb⟩; have n0_ := Aside0.mk (blk_below (g := gb241) (o := .cells #[.int .i64 a0_0, .int .i64 a0_1, .bool a0_2, .int .i64 a1] 23 (0, 0)) (by (with_reducible repeat (first | refine blk_drewN ?_ _ | refine blk_drew ?_ | refine blk_alloc ?_ _)); exact BK241.out) hb); have n1_ := Aside0.mk (below_step (by repeat (first | (with_reducible first | exact HB.out | apply below_alloc | apply pw_below_drewN | apply below_drew1 | refine below_set ?_ GE241.out) | exact HB.out)) hb); clear BK241; clear HB; have BK241 := n0_; have HB := n1_; clear n0_ n1_; (try clear hb); (try clear hb2); (try clear hk); (try clear hi))); try go_wp2_with (first | (go_at_call 11; (with_reducible refine (gantletlaw07_awake.calls  true _ A11.out).mono ?_); rintro e w14 ⟨rfl, hb⟩; have n0_ := Aside0.mk (blk_below (g := gb241) (o := .cells #[.int .i64 a0_0, .int .i64 a0_1, .bool a0_2, .int .i64 a1] 23 (0, 0)) (by (with_reducible repeat (first | refine blk_drewN ?_ _ | refine blk_drew ?_ | refine blk_alloc ?_ _)); exact BK241.out) hb); have n1_ := Aside0.mk (below_step (by repeat (first | (with_reducible first | exact HB.out | apply below_alloc | apply pw_below_drewN | apply below_drew1 | refine below_set ?_ GE241.out) | exact HB.out)) hb); clear BK241; clear HB; have BK241 := n0_; have HB := n1_; clear n0_ n1_; (try clear hb); (try clear hb2); (try clear hk); (try clear hi))))
        go_meet
        case rel => exact ⟨_, ((t245 != 0)), (by first | rfl | (simp; done) | (simp [*]; done) | (simp [show ∀ l : List UInt8, (!l.isEmpty) = (l != []) from fun l => by cases l <;> rfl]; done)), H', ⟨by first | omega | exact Nat.le_refl _⟩, ⟨by (with_reducible repeat (first | refine blk_drewN ?_ _ | refine blk_drew ?_ | refine blk_alloc ?_ _)); exact BK241.out⟩, ⟨by repeat (first | (with_reducible first | exact HB.out | apply below_alloc | apply pw_below_drewN | apply below_drew1 | refine below_set ?_ GE241.out) | exact HB.out)⟩⟩
      · rw [if_neg c13] at H
        have c13b0 : (t243 == 0) = false := beq_eq_false_iff_ne.mpr c13
        have c13b1 : (t243 != 0) = true := bne_iff_ne.mpr c13
        (first | rw [c13b0] | (simp only [i64_w, i32_w]; rw [c13b0]) | skip)
        have H' := Aside0.mk H
        clear H
        go_wp2_with (first | (go_at_call 11; (with_reducible refine (gantletlaw07_awake.calls  true _ A11.out).mono ?_); rintro e w15 ⟨rfl, hb⟩; have n0_ := Aside0.mk (blk_below (g := gb241) (o := .cells #[.int .i64 a0_0, .int .i64 a0_1, .bool a0_2, .int .i64 a1] 23 (0, 0)) (by (with_reducible repeat (first | refine blk_drewN ?_ _ | refine blk_drew ?_ | refine blk_alloc ?_ _)); exact BK241.out) hb); have n1_ := Aside0.mk (below_step (by repeat (first | (with_reducible first | exact HB.out | apply below_alloc | apply pw_below_drewN | apply below_drew1 | refine below_set ?_ GE241.out) | exact HB.out)) hb); clear BK241; clear HB; have BK241 := n0_; have HB := n1_; clear n0_ n1_; (try clear hb); (try clear hb2); (try clear hk); (try clear hi)))
        repeat (go_quiet (first | (go_at_call 11; (with_reducible refine (gantletlaw07_awake.calls  true _ A11.out).mono ?_); rintro e w15 ⟨rfl, hb⟩; have n0_ := Aside0.mk (blk_below (g := gb241) (o := .cells #[.int .i64 a0_0, .int .i64 a0_1, .bool a0_2, .int .i64 a1] 23 (0, 0)) (by (with_reducible repeat (first | refine blk_drewN ?_ _ | refine blk_drew ?_ | refine blk_alloc ?_ _)); exact BK241.out) hb); have n1_ := Aside0.mk (below_step (by repeat (first | (with_reducible first | exact HB.out | apply below_alloc | apply pw_below_drewN | apply below_drew1 | refine below_set ?_ GE241.out) | exact HB.out)) hb); clear BK241; clear HB; have BK241 := n0_; have HB := n1_; clear n0_ n1_; (try clear hb); (try clear hb2); (try clear hk); (try clear hi))); try go_wp2_with (first | (go_at_call 11; (with_reducible refine (gantletlaw07_awake.calls  true _ A11.out).mono ?_); rintro e w15 ⟨rfl, hb⟩; have n0_ := Aside0.mk (blk_below (g := gb241) (o := .cells #[.int .i64 a0_0, .int .i64 a0_1, .bool a0_2, .int .i64 a1] 23 (0, 0)) (by (with_reducible repeat (first | refine blk_drewN ?_ _ | refine blk_drew ?_ | refine blk_alloc ?_ _)); exact BK241.out) hb); have n1_ := Aside0.mk (below_step (by repeat (first | (with_reducible first | exact HB.out | apply below_alloc | apply pw_below_drewN | apply below_drew1 | refine below_set ?_ GE241.out) | exact HB.out)) hb); clear BK241; clear HB; have BK241 := n0_; have HB := n1_; clear n0_ n1_; (try clear hb); (try clear hb2); (try clear hk); (try clear hi))))
        go_meet
        case rel => exact ⟨_, (true), (by first | rfl | (simp; done) | (simp [*]; done) | (simp [show ∀ l : List UInt8, (!l.isEmpty) = (l != []) from fun l => by cases l <;> rfl]; done)), H', ⟨by first | omega | exact Nat.le_refl _⟩, ⟨by (with_reducible repeat (first | refine blk_drewN ?_ _ | refine blk_drew ?_ | refine blk_alloc ?_ _)); exact BK241.out⟩, ⟨by repeat (first | (with_reducible first | exact HB.out | apply below_alloc | apply pw_below_drewN | apply below_drew1 | refine below_set ?_ GE241.out) | exact HB.out)⟩⟩
    · replace c12 := Bool.eq_false_iff.mpr c12
      subst c12
      have H1 : (gantletlaw07_HeadSizes.j0 k t242 t244 true a0_0 a0_1 a0_2 a1) = some r := by rw [if_neg (show ¬ (false = true) by decide)] at H; exact H
      clear H
      have H := H1
      clear H1
      have H' := Aside0.mk H
      clear H
      go_wp2_with (first | (go_at_call 11; (with_reducible refine (gantletlaw07_awake.calls  false _ A11.out).mono ?_); rintro e w16 ⟨rfl, hb⟩; have n0_ := Aside0.mk (blk_below (g := gb241) (o := .cells #[.int .i64 a0_0, .int .i64 a0_1, .bool a0_2, .int .i64 a1] 23 (0, 0)) (by (with_reducible repeat (first | refine blk_drewN ?_ _ | refine blk_drew ?_ | refine blk_alloc ?_ _)); exact BK241.out) hb); have n1_ := Aside0.mk (below_step (by repeat (first | (with_reducible first | exact HB.out | apply below_alloc | apply pw_below_drewN | apply below_drew1 | refine below_set ?_ GE241.out) | exact HB.out)) hb); clear BK241; clear HB; have BK241 := n0_; have HB := n1_; clear n0_ n1_; (try clear hb); (try clear hb2); (try clear hk); (try clear hi)))
      repeat (go_quiet (first | (go_at_call 11; (with_reducible refine (gantletlaw07_awake.calls  false _ A11.out).mono ?_); rintro e w16 ⟨rfl, hb⟩; have n0_ := Aside0.mk (blk_below (g := gb241) (o := .cells #[.int .i64 a0_0, .int .i64 a0_1, .bool a0_2, .int .i64 a1] 23 (0, 0)) (by (with_reducible repeat (first | refine blk_drewN ?_ _ | refine blk_drew ?_ | refine blk_alloc ?_ _)); exact BK241.out) hb); have n1_ := Aside0.mk (below_step (by repeat (first | (with_reducible first | exact HB.out | apply below_alloc | apply pw_below_drewN | apply below_drew1 | refine below_set ?_ GE241.out) | exact HB.out)) hb); clear BK241; clear HB; have BK241 := n0_; have HB := n1_; clear n0_ n1_; (try clear hb); (try clear hb2); (try clear hk); (try clear hi))); try go_wp2_with (first | (go_at_call 11; (with_reducible refine (gantletlaw07_awake.calls  false _ A11.out).mono ?_); rintro e w16 ⟨rfl, hb⟩; have n0_ := Aside0.mk (blk_below (g := gb241) (o := .cells #[.int .i64 a0_0, .int .i64 a0_1, .bool a0_2, .int .i64 a1] 23 (0, 0)) (by (with_reducible repeat (first | refine blk_drewN ?_ _ | refine blk_drew ?_ | refine blk_alloc ?_ _)); exact BK241.out) hb); have n1_ := Aside0.mk (below_step (by repeat (first | (with_reducible first | exact HB.out | apply below_alloc | apply pw_below_drewN | apply below_drew1 | refine below_set ?_ GE241.out) | exact HB.out)) hb); clear BK241; clear HB; have BK241 := n0_; have HB := n1_; clear n0_ n1_; (try clear hb); (try clear hb2); (try clear hk); (try clear hi))))
      go_meet
      case rel => exact ⟨_, (true), (by first | rfl | (simp; done) | (simp [*]; done) | (simp [show ∀ l : List UInt8, (!l.isEmpty) = (l != []) from fun l => by cases l <;> rfl]; done)), H', ⟨by first | omega | exact Nat.le_refl _⟩, ⟨by (with_reducible repeat (first | refine blk_drewN ?_ _ | refine blk_drew ?_ | refine blk_alloc ?_ _)); exact BK241.out⟩, ⟨by repeat (first | (with_reducible first | exact HB.out | apply below_alloc | apply pw_below_drewN | apply below_drew1 | refine below_set ?_ GE241.out) | exact HB.out)⟩⟩
  case rest =>
    clear HC5
    try clear c1
    try clear p2
    try clear c8
    try clear c12
    try clear c13
    try clear c13b0
    try clear c13b1
    try clear hcz7_0
    try clear hcz7_1
    try clear hcz7_2
    try clear hcz7_3
    try clear hcz9_0
    try clear hcz9_1
    try clear hcz9_2
    try clear hcz9_3
    try clear hfz7_0
    try clear hfz7_1
    try clear hfz7_2
    try clear hfz7_3
    try clear hfz9_0
    try clear hfz9_1
    try clear hfz9_2
    try clear hfz9_3
    obtain ⟨kq, x32_4, rfl, HA, HJ4, BK241, HB⟩ := hcut
    cases kq with
    | zero => exact absurd HA.out (by simp [gantletlaw07_HeadSizes.j0])
    | succ kj4 =>
      have H := HA.out
      clear HA
      simp only [gantletlaw07_HeadSizes.j0] at H
      by_cases c17 : x32_4 = true
      · subst c17
        have H1 : ((gantletlaw07_awake.f).bind fun t247 => (some t247)) = some r := by rw [if_pos rfl] at H; exact H
        clear H
        have H := H1
        clear H1
        replace H := Option.bind_eq_some_iff.mp H
        obtain ⟨t247, A180, H⟩ := H
        replace H : (some t247) = some r := H
        have A18 := Aside0.mk A180
        clear A180
        obtain rfl := Option.some.inj H
        go_wp2_with (first | (go_at_call 11; (with_reducible refine (gantletlaw07_awake.calls  t247 _ A18.out).mono ?_); rintro e w19 ⟨rfl, hb⟩; have n0_ := Aside0.mk (blk_below (g := gb241) (o := .cells #[.int .i64 a0_0, .int .i64 a0_1, .bool a0_2, .int .i64 a1] 23 (0, 0)) (by (with_reducible repeat (first | refine blk_drewN ?_ _ | refine blk_drew ?_ | refine blk_alloc ?_ _)); exact BK241.out) hb); have n1_ := Aside0.mk (below_step (by repeat (first | (with_reducible first | exact HB.out | apply below_alloc | apply pw_below_drewN | apply below_drew1 | refine below_set ?_ GE241.out) | exact HB.out)) hb); clear BK241; clear HB; have BK241 := n0_; have HB := n1_; clear n0_ n1_; (try clear hb); (try clear hb2); (try clear hk); (try clear hi)))
        repeat (go_quiet (first | (go_at_call 11; (with_reducible refine (gantletlaw07_awake.calls  t247 _ A18.out).mono ?_); rintro e w19 ⟨rfl, hb⟩; have n0_ := Aside0.mk (blk_below (g := gb241) (o := .cells #[.int .i64 a0_0, .int .i64 a0_1, .bool a0_2, .int .i64 a1] 23 (0, 0)) (by (with_reducible repeat (first | refine blk_drewN ?_ _ | refine blk_drew ?_ | refine blk_alloc ?_ _)); exact BK241.out) hb); have n1_ := Aside0.mk (below_step (by repeat (first | (with_reducible first | exact HB.out | apply below_alloc | apply pw_below_drewN | apply below_drew1 | refine below_set ?_ GE241.out) | exact HB.out)) hb); clear BK241; clear HB; have BK241 := n0_; have HB := n1_; clear n0_ n1_; (try clear hb); (try clear hb2); (try clear hk); (try clear hi))); try go_wp2_with (first | (go_at_call 11; (with_reducible refine (gantletlaw07_awake.calls  t247 _ A18.out).mono ?_); rintro e w19 ⟨rfl, hb⟩; have n0_ := Aside0.mk (blk_below (g := gb241) (o := .cells #[.int .i64 a0_0, .int .i64 a0_1, .bool a0_2, .int .i64 a1] 23 (0, 0)) (by (with_reducible repeat (first | refine blk_drewN ?_ _ | refine blk_drew ?_ | refine blk_alloc ?_ _)); exact BK241.out) hb); have n1_ := Aside0.mk (below_step (by repeat (first | (with_reducible first | exact HB.out | apply below_alloc | apply pw_below_drewN | apply below_drew1 | refine below_set ?_ GE241.out) | exact HB.out)) hb); clear BK241; clear HB; have BK241 := n0_; have HB := n1_; clear n0_ n1_; (try clear hb); (try clear hb2); (try clear hk); (try clear hi))))
        go_ret
        exact ⟨by first | rfl | (simp [errW_none, errW_some] <;> rfl) | (simp [*, errW_none, errW_some] <;> rfl), by repeat (first | (with_reducible first | exact HB.out | apply below_alloc | apply pw_below_drewN | apply below_drew1 | refine below_set ?_ GE241.out) | exact HB.out)⟩
      · replace c17 := Bool.eq_false_iff.mpr c17
        subst c17
        have H1 : ((head_Put.f kj4 a0_0 a0_1 a0_2 0).bind fun bt248 => (if (t242.size : Int) ≥ 2 then (if (t242.size : Int) ≤ 14 then (if (bt248.1.size : Int) ≥ 2 then (if (bt248.1.size : Int) ≤ (t242.size : Int) then (if (bt248.1.size : Int) ≤ (t244.size : Int) then (if 0 ≤ (wrap64 ((bt248.1.size : Int) - 1)) then (if (wrap64 ((bt248.1.size : Int) - 1)) ≤ (t242.size : Int) then (if (wrap64 ((bt248.1.size : Int) - 1)) ≤ (bt248.1.size : Int) then (if (t242.extract 0 ((wrap64 ((bt248.1.size : Int) - 1)) : Int).toNat).toList = (bt248.1.extract 0 ((wrap64 ((bt248.1.size : Int) - 1)) : Int).toNat).toList then (if (wrap64 ((bt248.1.size : Int) - 1)) ≤ (t244.size : Int) then (some ((t244.extract 0 ((wrap64 ((bt248.1.size : Int) - 1)) : Int).toNat).toList == (bt248.1.extract 0 ((wrap64 ((bt248.1.size : Int) - 1)) : Int).toNat).toList)) else (none)) else (none)) else (none)) else (none)) else (none)) else (none)) else (none)) else (none)) else (none)) else (none))) = some r := by rw [if_neg (show ¬ (false = true) by decide)] at H; exact H
        clear H
        have H := H1
        clear H1
        replace H := Option.bind_eq_some_iff.mp H
        obtain ⟨⟨t248, t249⟩, A200, H⟩ := H
        replace H : (if (t242.size : Int) ≥ 2 then (if (t242.size : Int) ≤ 14 then (if (t248.size : Int) ≥ 2 then (if (t248.size : Int) ≤ (t242.size : Int) then (if (t248.size : Int) ≤ (t244.size : Int) then (if 0 ≤ (wrap64 ((t248.size : Int) - 1)) then (if (wrap64 ((t248.size : Int) - 1)) ≤ (t242.size : Int) then (if (wrap64 ((t248.size : Int) - 1)) ≤ (t248.size : Int) then (if (t242.extract 0 ((wrap64 ((t248.size : Int) - 1)) : Int).toNat).toList = (t248.extract 0 ((wrap64 ((t248.size : Int) - 1)) : Int).toNat).toList then (if (wrap64 ((t248.size : Int) - 1)) ≤ (t244.size : Int) then (some ((t244.extract 0 ((wrap64 ((t248.size : Int) - 1)) : Int).toNat).toList == (t248.extract 0 ((wrap64 ((t248.size : Int) - 1)) : Int).toNat).toList)) else (none)) else (none)) else (none)) else (none)) else (none)) else (none)) else (none)) else (none)) else (none)) else (none)) = some r := H
        have A20 := Aside0.mk A200
        clear A200
        by_cases c21 : (t242.size : Int) ≥ 2
        · rw [if_pos c21] at H
          have c21b0 : decide (2 ≤ (t242.size : Int)) = true := decide_eq_true c21
          have c21b1 : decide (2 ≤ t242.size) = true := decide_eq_true (by omega)
          clear c21
          by_cases c22 : (t242.size : Int) ≤ 14
          · rw [if_pos c22] at H
            have c22b0 : decide ((t242.size : Int) ≤ 14) = true := decide_eq_true c22
            have c22b1 : decide (t242.size ≤ 14) = true := decide_eq_true (by omega)
            clear c22
            by_cases c23 : (t248.size : Int) ≥ 2
            · rw [if_pos c23] at H
              have c23b0 : decide (2 ≤ (t248.size : Int)) = true := decide_eq_true c23
              have c23b1 : decide (2 ≤ t248.size) = true := decide_eq_true (by omega)
              clear c23
              by_cases c24 : (t248.size : Int) ≤ (t242.size : Int)
              · rw [if_pos c24] at H
                have c24b0 : decide ((t248.size : Int) ≤ (t242.size : Int)) = true := decide_eq_true c24
                have c24b1 : decide (t248.size ≤ t242.size) = true := decide_eq_true (Int.ofNat_le.mp c24)
                clear c24
                by_cases c25 : (t248.size : Int) ≤ (t244.size : Int)
                · rw [if_pos c25] at H
                  have c25b0 : decide ((t248.size : Int) ≤ (t244.size : Int)) = true := decide_eq_true c25
                  have c25b1 : decide (t248.size ≤ t244.size) = true := decide_eq_true (Int.ofNat_le.mp c25)
                  clear c25
                  obtain ⟨ji26, hji26⟩ : ∃ j_ : Int, (wrap64 ((t248.size : Int) - 1)) = j_ := ⟨_, rfl⟩
                  replace H : (if 0 ≤ (ji26) then (if (ji26) ≤ (t242.size : Int) then (if (ji26) ≤ (t248.size : Int) then (if (t242.extract 0 ((ji26) : Int).toNat).toList = (t248.extract 0 ((ji26) : Int).toNat).toList then (if (ji26) ≤ (t244.size : Int) then (some ((t244.extract 0 ((ji26) : Int).toNat).toList == (t248.extract 0 ((ji26) : Int).toNat).toList)) else (none)) else (none)) else (none)) else (none)) else (none)) = some r := by first | (rw [hji26] at H; exact H) | (simp only [hji26] at H ⊢; exact H)
                  (try rw [hji26] at A20)
                  have hji26w : (IntKind.i64.wrap ((t248.size : Int) - 1)) = ji26 := (i64_w _).trans hji26
                  by_cases c27 : 0 ≤ (ji26)
                  · rw [if_pos c27] at H
                    have c27b0 := eq_true c27
                    have c27b1 : decide (0 ≤ (ji26)) = true := decide_eq_true c27
                    clear c27
                    by_cases c28 : (ji26) ≤ (t242.size : Int)
                    · rw [if_pos c28] at H
                      have c28b0 := eq_true c28
                      have c28b1 : decide ((ji26) ≤ (t242.size : Int)) = true := decide_eq_true c28
                      clear c28
                      have c29b0 := eq_true (of_decide_eq_true (by first | (with_reducible assumption) | assumption) : 0 ≤ (ji26))
                      by_cases c30 : (ji26) ≤ (t248.size : Int)
                      · rw [if_pos c30] at H
                        have c30b0 := eq_true c30
                        have c30b1 : decide ((ji26) ≤ (t248.size : Int)) = true := decide_eq_true c30
                        clear c30
                        by_cases c31 : (t242.extract 0 ((ji26) : Int).toNat).toList = (t248.extract 0 ((ji26) : Int).toNat).toList
                        · rw [if_pos c31] at H
                          have c31b0 : ((t242.extract 0 ((ji26) : Int).toNat).toList == (t248.extract 0 ((ji26) : Int).toNat).toList) = true := beq_iff_eq.mpr c31
                          have c31b1 : ((t242.extract 0 ((ji26) : Int).toNat).toList != (t248.extract 0 ((ji26) : Int).toNat).toList) = false := bne_eq_false_iff_eq.mpr c31
                          clear c31
                          have c32b0 := eq_true (of_decide_eq_true (by first | (with_reducible assumption) | assumption) : 0 ≤ (ji26))
                          by_cases c33 : (ji26) ≤ (t244.size : Int)
                          · rw [if_pos c33] at H
                            have c33b0 := eq_true c33
                            have c33b1 : decide ((ji26) ≤ (t244.size : Int)) = true := decide_eq_true c33
                            clear c33
                            have c34b0 := eq_true (of_decide_eq_true (by first | (with_reducible assumption) | assumption) : 0 ≤ (ji26))
                            have c35b0 := eq_true (of_decide_eq_true (by first | (with_reducible assumption) | assumption) : (ji26) ≤ (t248.size : Int))
                            obtain rfl := Option.some.inj H
                            have hcz36_0 : wc.cell? ⟨gb241, 0, none⟩ = some (.int .i64 a0_0) := (blk_cell BK241.out 0).trans rfl
                            have hcz36_1 : wc.cell? ⟨gb241, 1, none⟩ = some (.int .i64 a0_1) := (blk_cell BK241.out 1).trans rfl
                            have hcz36_2 : wc.cell? ⟨gb241, 2, none⟩ = some (.bool a0_2) := (blk_cell BK241.out 2).trans rfl
                            have hcz36_3 : wc.cell? ⟨gb241, 3, none⟩ = some (.int .i64 a1) := (blk_cell BK241.out 3).trans rfl
                            have hfz36_0 := blk_frozen BK241.out 0
                            have hfz36_1 := blk_frozen BK241.out 1
                            have hfz36_2 := blk_frozen BK241.out 2
                            have hfz36_3 := blk_frozen BK241.out 3
                            go_wp2_with (first | (go_at_call 9; (with_reducible refine (head_Put.calls kj4 a0_0 a0_1 a0_2 0 t248 t249 _ A20.out).mono ?_); rintro e w37 ⟨rfl, hb⟩; have n0_ := Aside0.mk (blk_below (g := gb241) (o := .cells #[.int .i64 a0_0, .int .i64 a0_1, .bool a0_2, .int .i64 0] 23 (0, 0)) (by (with_reducible repeat (first | refine blk_drewN ?_ _ | refine blk_drew ?_ | refine blk_alloc ?_ _)); refine blk_put (cs := #[.int .i64 a0_0, .int .i64 a0_1, .bool a0_2, .int .i64 a1]) ?_ 3 _ rfl; (with_reducible repeat (first | refine blk_drewN ?_ _ | refine blk_drew ?_ | refine blk_alloc ?_ _)); exact BK241.out) hb); have n1_ := Aside0.mk (below_step (by repeat (first | (with_reducible first | exact HB.out | apply below_alloc | apply pw_below_drewN | apply below_drew1 | refine below_set ?_ GE241.out) | exact HB.out)) hb); clear BK241; clear HB; have BK241 := n0_; have HB := n1_; clear n0_ n1_; (try clear hb); (try clear hb2); (try clear hk); (try clear hi)))
                            repeat (go_quiet (first | (go_at_call 9; (with_reducible refine (head_Put.calls kj4 a0_0 a0_1 a0_2 0 t248 t249 _ A20.out).mono ?_); rintro e w37 ⟨rfl, hb⟩; have n0_ := Aside0.mk (blk_below (g := gb241) (o := .cells #[.int .i64 a0_0, .int .i64 a0_1, .bool a0_2, .int .i64 0] 23 (0, 0)) (by (with_reducible repeat (first | refine blk_drewN ?_ _ | refine blk_drew ?_ | refine blk_alloc ?_ _)); refine blk_put (cs := #[.int .i64 a0_0, .int .i64 a0_1, .bool a0_2, .int .i64 a1]) ?_ 3 _ rfl; (with_reducible repeat (first | refine blk_drewN ?_ _ | refine blk_drew ?_ | refine blk_alloc ?_ _)); exact BK241.out) hb); have n1_ := Aside0.mk (below_step (by repeat (first | (with_reducible first | exact HB.out | apply below_alloc | apply pw_below_drewN | apply below_drew1 | refine below_set ?_ GE241.out) | exact HB.out)) hb); clear BK241; clear HB; have BK241 := n0_; have HB := n1_; clear n0_ n1_; (try clear hb); (try clear hb2); (try clear hk); (try clear hi))); try go_wp2_with (first | (go_at_call 9; (with_reducible refine (head_Put.calls kj4 a0_0 a0_1 a0_2 0 t248 t249 _ A20.out).mono ?_); rintro e w37 ⟨rfl, hb⟩; have n0_ := Aside0.mk (blk_below (g := gb241) (o := .cells #[.int .i64 a0_0, .int .i64 a0_1, .bool a0_2, .int .i64 0] 23 (0, 0)) (by (with_reducible repeat (first | refine blk_drewN ?_ _ | refine blk_drew ?_ | refine blk_alloc ?_ _)); refine blk_put (cs := #[.int .i64 a0_0, .int .i64 a0_1, .bool a0_2, .int .i64 a1]) ?_ 3 _ rfl; (with_reducible repeat (first | refine blk_drewN ?_ _ | refine blk_drew ?_ | refine blk_alloc ?_ _)); exact BK241.out) hb); have n1_ := Aside0.mk (below_step (by repeat (first | (with_reducible first | exact HB.out | apply below_alloc | apply pw_below_drewN | apply below_drew1 | refine below_set ?_ GE241.out) | exact HB.out)) hb); clear BK241; clear HB; have BK241 := n0_; have HB := n1_; clear n0_ n1_; (try clear hb); (try clear hb2); (try clear hk); (try clear hi))))
                            go_ret
                            exact ⟨by first | rfl | (simp [errW_none, errW_some] <;> rfl) | (simp only [← hji26]; first | rfl | (simp [errW_none, errW_some] <;> rfl)) | (simp [*, errW_none, errW_some] <;> rfl), by repeat (first | (with_reducible first | exact HB.out | apply below_alloc | apply pw_below_drewN | apply below_drew1 | refine below_set ?_ GE241.out) | exact HB.out)⟩
                          · rw [if_neg c33] at H
                            exact absurd H (by simp)
                        · rw [if_neg c31] at H
                          exact absurd H (by simp)
                      · rw [if_neg c30] at H
                        exact absurd H (by simp)
                    · rw [if_neg c28] at H
                      exact absurd H (by simp)
                  · rw [if_neg c27] at H
                    exact absurd H (by simp)
                · rw [if_neg c25] at H
                  exact absurd H (by simp)
              · rw [if_neg c24] at H
                exact absurd H (by simp)
            · rw [if_neg c23] at H
              exact absurd H (by simp)
          · rw [if_neg c22] at H
            exact absurd H (by simp)
        · rw [if_neg c21] at H
          exact absurd H (by simp)

end Go.Proofs.Ythmgabfhibkaiaa.PA
