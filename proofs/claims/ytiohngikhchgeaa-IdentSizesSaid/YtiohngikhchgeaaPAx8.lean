-- Written by a program of this session (print2, a turned print): not PRINTED BY print.sh
import Derived.Test.YtiohngikhchgeaaPAx0
import Derived.Test.YtiohngikhchgeaaPAx2
import Derived.Test.YtiohngikhchgeaaPAx5
namespace Go.Proofs.Ytiohngikhchgeaa.PA
open Go.RowKit Go.Proofs.YtiohngikhchgeaaW.PrintWords Go.Proofs.YtiohngikhchgeaaW.PrintLast Go.Proofs.YtiohngikhchgeaaW.PrintMore
attribute [local go_sem] max2_int min2_int max_two min_two max_three min_three max_four min_four   -- for this text's walks alone
set_option linter.unusedVariables false
set_option linter.unusedSimpArgs false

/-! ### gantletlaw05_IdentSizes: function 8 -/
mutual
def gantletlaw05_IdentSizes.j0 : Nat → ByteArray → Int → Bool → Int → Int → Bool → Int → Option (Bool)
  | 0, _, _, _, _, _, _, _ => none
  | k + 1, x3, x4, x24, x243000, x243001, x243002, x243003 => if x24 = true then ((gantletlaw05_awake.f k).bind fun t246 => (if t246 = true then (some (x4 != 0)) else (some false))) else ((ident_Put.f k 0 x243001 false 0).bind fun bt247 => (if x243001 ≥ 31 then (gantletlaw05_IdentSizes.l0 k x3 bt247.1 1 x243001 x243000 x243001 x243002 x243003) else (if (x3.size : Int) = 1 then (if (bt247.1.size : Int) = 1 then (if 1 ≤ (x3.size : Int) then (if 1 ≤ (bt247.1.size : Int) then (if (x3.extract 1 x3.size).toList = (bt247.1.extract 1 bt247.1.size).toList then (if 0 < (x3.size : Int) then (if 0 < (bt247.1.size : Int) then (if (Int.tmod (wrap64 (bt x3 0)) 32) = (Int.tmod (wrap64 (bt bt247.1 0)) 32) then (if (wrap64 (Int.tdiv (wrap64 (bt x3 0)) 64)) = x243000 then (some (((Int.tmod (wrap64 (Int.tdiv (wrap64 (bt x3 0)) 32)) 2) == 1) == x243002)) else (some false)) else (some false)) else (none)) else (none)) else (some false)) else (none)) else (none)) else (some false)) else (some false))))
def gantletlaw05_IdentSizes.l0 : Nat → ByteArray → ByteArray → Int → Int → Int → Int → Bool → Int → Option (Bool)
  | 0, _, _, _, _, _, _, _, _ => none
  | k + 1, x3, x5, x7, x8, x243000, x243001, x243002, x243003 => if x8 > 0 then (gantletlaw05_IdentSizes.l0 k x3 x5 (wrap64 (x7 + 1)) (wrap64 (Int.tdiv x8 128)) x243000 x243001 x243002 x243003) else (if (x3.size : Int) = x7 then (if (x5.size : Int) = x7 then (if 1 ≤ (x3.size : Int) then (if 1 ≤ (x5.size : Int) then (if (x3.extract 1 x3.size).toList = (x5.extract 1 x5.size).toList then (if 0 < (x3.size : Int) then (if 0 < (x5.size : Int) then (if (Int.tmod (wrap64 (bt x3 0)) 32) = (Int.tmod (wrap64 (bt x5 0)) 32) then (if (wrap64 (Int.tdiv (wrap64 (bt x3 0)) 64)) = x243000 then (some (((Int.tmod (wrap64 (Int.tdiv (wrap64 (bt x3 0)) 32)) 2) == 1) == x243002)) else (some false)) else (some false)) else (none)) else (none)) else (some false)) else (none)) else (none)) else (some false)) else (some false))
end
def gantletlaw05_IdentSizes.f (k : Nat) (a0_0 : Int) (a0_1 : Int) (a0_2 : Bool) (a0_3 : Int) : Option (Bool) := (ident_Put.f k a0_0 a0_1 a0_2 a0_3).bind fun bt243 => ((gantletlaw05_awake.f k).bind fun t245 => (if t245 = true then (if bt243.2 = 0 then (gantletlaw05_IdentSizes.j0 k bt243.1 bt243.2 ((bt243.1.size : Int) == 0) a0_0 a0_1 a0_2 a0_3) else (gantletlaw05_IdentSizes.j0 k bt243.1 bt243.2 true a0_0 a0_1 a0_2 a0_3)) else (gantletlaw05_IdentSizes.j0 k bt243.1 bt243.2 true a0_0 a0_1 a0_2 a0_3)))
theorem gantletlaw05_IdentSizes.mono_l : ∀ k, (∀ y0 y1 y2 y3 y4 y5 y6, LeO (gantletlaw05_IdentSizes.j0 k y0 y1 y2 y3 y4 y5 y6) (gantletlaw05_IdentSizes.j0 (k + 1) y0 y1 y2 y3 y4 y5 y6)) ∧ (∀ y0 y1 y2 y3 y4 y5 y6 y7, LeO (gantletlaw05_IdentSizes.l0 k y0 y1 y2 y3 y4 y5 y6 y7) (gantletlaw05_IdentSizes.l0 (k + 1) y0 y1 y2 y3 y4 y5 y6 y7))
  | 0 => ⟨fun _ _ _ _ _ _ _ r h => by simp [gantletlaw05_IdentSizes.j0] at h, fun _ _ _ _ _ _ _ _ r h => by simp [gantletlaw05_IdentSizes.l0] at h⟩
  | k + 1 => by
    obtain ⟨ih0, ih1⟩ := gantletlaw05_IdentSizes.mono_l k
    refine ⟨?_, ?_⟩
    · intro y0 y1 y2 y3 y4 y5 y6
      unfold gantletlaw05_IdentSizes.j0
      repeat' first
      | (with_reducible exact ih0 _ _ _ _ _ _ _)
      | (with_reducible exact ih1 _ _ _ _ _ _ _ _)
      | (with_reducible exact gantletlaw05_awake.mono _)
      | (with_reducible exact ident_Put.mono _ _ _ _ _)
      | (with_reducible exact LeO.refl _)
      | (with_reducible exact LeO.none _)
      | (with_reducible refine LeO.ite ?_ ?_)
      | (with_reducible refine LeO.bind ?_ (fun _ => ?_))
      | exact ih0 _ _ _ _ _ _ _
      | exact ih1 _ _ _ _ _ _ _ _
      | exact gantletlaw05_awake.mono _
      | exact ident_Put.mono _ _ _ _ _
      | exact LeO.none _
      | refine LeO.ite ?_ ?_
      | refine LeO.bind ?_ (fun _ => ?_)
    · intro y0 y1 y2 y3 y4 y5 y6 y7
      unfold gantletlaw05_IdentSizes.l0
      repeat' first
      | (with_reducible exact ih0 _ _ _ _ _ _ _)
      | (with_reducible exact ih1 _ _ _ _ _ _ _ _)
      | (with_reducible exact gantletlaw05_awake.mono _)
      | (with_reducible exact ident_Put.mono _ _ _ _ _)
      | (with_reducible exact LeO.refl _)
      | (with_reducible exact LeO.none _)
      | (with_reducible refine LeO.ite ?_ ?_)
      | (with_reducible refine LeO.bind ?_ (fun _ => ?_))
      | exact ih0 _ _ _ _ _ _ _
      | exact ih1 _ _ _ _ _ _ _ _
      | exact gantletlaw05_awake.mono _
      | exact ident_Put.mono _ _ _ _ _
      | exact LeO.none _
      | refine LeO.ite ?_ ?_
      | refine LeO.bind ?_ (fun _ => ?_)
theorem gantletlaw05_IdentSizes.mono : ∀ a0 a1 a2 a3 k, LeO (gantletlaw05_IdentSizes.f k a0 a1 a2 a3) (gantletlaw05_IdentSizes.f (k + 1) a0 a1 a2 a3) := by
  intro a0 a1 a2 a3 k
  obtain ⟨ih0, ih1⟩ := gantletlaw05_IdentSizes.mono_l k
  unfold gantletlaw05_IdentSizes.f
  repeat' first
      | (with_reducible exact ih0 _ _ _ _ _ _ _)
      | (with_reducible exact ih1 _ _ _ _ _ _ _ _)
      | (with_reducible exact gantletlaw05_awake.mono _)
      | (with_reducible exact ident_Put.mono _ _ _ _ _)
      | (with_reducible exact LeO.refl _)
      | (with_reducible exact LeO.none _)
      | (with_reducible refine LeO.ite ?_ ?_)
      | (with_reducible refine LeO.bind ?_ (fun _ => ?_))
      | exact ih0 _ _ _ _ _ _ _
      | exact ih1 _ _ _ _ _ _ _ _
      | exact gantletlaw05_awake.mono _
      | exact ident_Put.mono _ _ _ _ _
      | exact LeO.none _
      | refine LeO.ite ?_ ?_
      | refine LeO.bind ?_ (fun _ => ?_)
set_option maxHeartbeats 8000000 in
set_option maxRecDepth 100000 in
theorem gantletlaw05_IdentSizes.calls (k : Nat) (a0_0 : Int) (a0_1 : Int) (a0_2 : Bool) (a0_3 : Int) (r : Bool) (w : World) (h : gantletlaw05_IdentSizes.f k a0_0 a0_1 a0_2 a0_3 = some r) :
    Calls Try.prog 8 #[.agg #[.int .i64 a0_0, .int .i64 a0_1, .bool a0_2, .int .i64 a0_3]] w fun e w' => e = .returned (.bool r) ∧ Below w.heap.size w w' := by
  have hu23 := Try.underlying23
  have HB := Aside0.mk (Below.refl w.heap.size w)
  have H : ((ident_Put.f k a0_0 a0_1 a0_2 a0_3).bind fun bt243 => ((gantletlaw05_awake.f k).bind fun t245 => (if t245 = true then (if bt243.2 = 0 then (gantletlaw05_IdentSizes.j0 k bt243.1 bt243.2 ((bt243.1.size : Int) == 0) a0_0 a0_1 a0_2 a0_3) else (gantletlaw05_IdentSizes.j0 k bt243.1 bt243.2 true a0_0 a0_1 a0_2 a0_3)) else (gantletlaw05_IdentSizes.j0 k bt243.1 bt243.2 true a0_0 a0_1 a0_2 a0_3)))) = some r := h
  clear h
  replace H := Option.bind_eq_some_iff.mp H
  obtain ⟨⟨t243, t244⟩, A20, H⟩ := H
  replace H : ((gantletlaw05_awake.f k).bind fun t245 => (if t245 = true then (if t244 = 0 then (gantletlaw05_IdentSizes.j0 k t243 t244 ((t243.size : Int) == 0) a0_0 a0_1 a0_2 a0_3) else (gantletlaw05_IdentSizes.j0 k t243 t244 true a0_0 a0_1 a0_2 a0_3)) else (gantletlaw05_IdentSizes.j0 k t243 t244 true a0_0 a0_1 a0_2 a0_3))) = some r := H
  have A2 := Aside0.mk A20
  clear A20
  have HC3 := Aside0.mk H
  clear H
  go_enter Try.func8, Try.ntmps8
  go_upto_region 2 with (first | ((with_reducible refine gate_dst (N := 1) rfl ?_); (try (refine gate_guard (by rfl) ?_; dsimp only)); refine box_event ?hg (N := 1) ?hd (cs := #[.int .i64 a0_0, .int .i64 a0_1, .bool a0_2, .int .i64 a0_3]) (t := 23) ?hr ?_; (case hd => rfl); (case hg => rfl); (case hr => first | (go_simp; done) | (go_simp; rfl)); intro gb242 hg w4 hbox hb; have n0_ := Aside0.mk (below_step (by repeat (first | (with_reducible first | exact HB.out | apply below_alloc | apply pw_below_drewN | apply below_drew1) | exact HB.out)) hb); have n1_ := Aside0.mk (hbox); have n2_ := Aside0.mk ((by rw [hg]; exact (below_size (by repeat (first | (with_reducible first | exact HB.out | apply below_alloc | apply pw_below_drewN | apply below_drew1) | exact HB.out))) : w.heap.size ≤ gb242)); have n3_ := Aside0.mk ((by rw [hg]; exact (below_size (by repeat (first | (with_reducible first | exact HB.out | apply below_alloc | apply pw_below_drewN | apply below_drew1) | exact HB.out))) : w.heap.size ≤ gb242)); clear HB; have HB := n0_; have BK242 := n1_; have GW242 := n2_; have GE242 := n3_; clear n0_ n1_ n2_ n3_; clear hb hbox hg; have hcz5_0 : w4.cell? ⟨gb242, 0, none⟩ = some (.int .i64 a0_0) := (blk_cell BK242.out 0).trans rfl; have hcz5_1 : w4.cell? ⟨gb242, 1, none⟩ = some (.int .i64 a0_1) := (blk_cell BK242.out 1).trans rfl; have hcz5_2 : w4.cell? ⟨gb242, 2, none⟩ = some (.bool a0_2) := (blk_cell BK242.out 2).trans rfl; have hcz5_3 : w4.cell? ⟨gb242, 3, none⟩ = some (.int .i64 a0_3) := (blk_cell BK242.out 3).trans rfl; have hfz5_0 := blk_frozen BK242.out 0; have hfz5_1 := blk_frozen BK242.out 1; have hfz5_2 := blk_frozen BK242.out 2; have hfz5_3 := blk_frozen BK242.out 3) | (go_at_call 9; (with_reducible refine (ident_Put.calls k a0_0 a0_1 a0_2 a0_3 t243 t244 _ A2.out).mono ?_); rintro e w6 ⟨rfl, hb⟩; have n0_ := Aside0.mk (blk_below (g := gb242) (o := .cells #[.int .i64 a0_0, .int .i64 a0_1, .bool a0_2, .int .i64 a0_3] 23 (0, 0)) (by (with_reducible repeat (first | refine blk_drewN ?_ _ | refine blk_drew ?_ | refine blk_alloc ?_ _)); exact BK242.out) hb); have n1_ := Aside0.mk (below_step (by repeat (first | (with_reducible first | exact HB.out | apply below_alloc | apply pw_below_drewN | apply below_drew1 | refine below_set ?_ GE242.out) | exact HB.out)) hb); clear BK242; clear HB; have BK242 := n0_; have HB := n1_; clear n0_ n1_; (try clear hb); (try clear hb2); (try clear hk); (try clear hi)))
  repeat (go_quiet (first | ((with_reducible refine gate_dst (N := 1) rfl ?_); (try (refine gate_guard (by rfl) ?_; dsimp only)); refine box_event ?hg (N := 1) ?hd (cs := #[.int .i64 a0_0, .int .i64 a0_1, .bool a0_2, .int .i64 a0_3]) (t := 23) ?hr ?_; (case hd => rfl); (case hg => rfl); (case hr => first | (go_simp; done) | (go_simp; rfl)); intro gb242 hg w4 hbox hb; have n0_ := Aside0.mk (below_step (by repeat (first | (with_reducible first | exact HB.out | apply below_alloc | apply pw_below_drewN | apply below_drew1) | exact HB.out)) hb); have n1_ := Aside0.mk (hbox); have n2_ := Aside0.mk ((by rw [hg]; exact (below_size (by repeat (first | (with_reducible first | exact HB.out | apply below_alloc | apply pw_below_drewN | apply below_drew1) | exact HB.out))) : w.heap.size ≤ gb242)); have n3_ := Aside0.mk ((by rw [hg]; exact (below_size (by repeat (first | (with_reducible first | exact HB.out | apply below_alloc | apply pw_below_drewN | apply below_drew1) | exact HB.out))) : w.heap.size ≤ gb242)); clear HB; have HB := n0_; have BK242 := n1_; have GW242 := n2_; have GE242 := n3_; clear n0_ n1_ n2_ n3_; clear hb hbox hg; have hcz5_0 : w4.cell? ⟨gb242, 0, none⟩ = some (.int .i64 a0_0) := (blk_cell BK242.out 0).trans rfl; have hcz5_1 : w4.cell? ⟨gb242, 1, none⟩ = some (.int .i64 a0_1) := (blk_cell BK242.out 1).trans rfl; have hcz5_2 : w4.cell? ⟨gb242, 2, none⟩ = some (.bool a0_2) := (blk_cell BK242.out 2).trans rfl; have hcz5_3 : w4.cell? ⟨gb242, 3, none⟩ = some (.int .i64 a0_3) := (blk_cell BK242.out 3).trans rfl; have hfz5_0 := blk_frozen BK242.out 0; have hfz5_1 := blk_frozen BK242.out 1; have hfz5_2 := blk_frozen BK242.out 2; have hfz5_3 := blk_frozen BK242.out 3) | (go_at_call 9; (with_reducible refine (ident_Put.calls k a0_0 a0_1 a0_2 a0_3 t243 t244 _ A2.out).mono ?_); rintro e w6 ⟨rfl, hb⟩; have n0_ := Aside0.mk (blk_below (g := gb242) (o := .cells #[.int .i64 a0_0, .int .i64 a0_1, .bool a0_2, .int .i64 a0_3] 23 (0, 0)) (by (with_reducible repeat (first | refine blk_drewN ?_ _ | refine blk_drew ?_ | refine blk_alloc ?_ _)); exact BK242.out) hb); have n1_ := Aside0.mk (below_step (by repeat (first | (with_reducible first | exact HB.out | apply below_alloc | apply pw_below_drewN | apply below_drew1 | refine below_set ?_ GE242.out) | exact HB.out)) hb); clear BK242; clear HB; have BK242 := n0_; have HB := n1_; clear n0_ n1_; (try clear hb); (try clear hb2); (try clear hk); (try clear hi))); go_upto_region 2 with (first | ((with_reducible refine gate_dst (N := 1) rfl ?_); (try (refine gate_guard (by rfl) ?_; dsimp only)); refine box_event ?hg (N := 1) ?hd (cs := #[.int .i64 a0_0, .int .i64 a0_1, .bool a0_2, .int .i64 a0_3]) (t := 23) ?hr ?_; (case hd => rfl); (case hg => rfl); (case hr => first | (go_simp; done) | (go_simp; rfl)); intro gb242 hg w4 hbox hb; have n0_ := Aside0.mk (below_step (by repeat (first | (with_reducible first | exact HB.out | apply below_alloc | apply pw_below_drewN | apply below_drew1) | exact HB.out)) hb); have n1_ := Aside0.mk (hbox); have n2_ := Aside0.mk ((by rw [hg]; exact (below_size (by repeat (first | (with_reducible first | exact HB.out | apply below_alloc | apply pw_below_drewN | apply below_drew1) | exact HB.out))) : w.heap.size ≤ gb242)); have n3_ := Aside0.mk ((by rw [hg]; exact (below_size (by repeat (first | (with_reducible first | exact HB.out | apply below_alloc | apply pw_below_drewN | apply below_drew1) | exact HB.out))) : w.heap.size ≤ gb242)); clear HB; have HB := n0_; have BK242 := n1_; have GW242 := n2_; have GE242 := n3_; clear n0_ n1_ n2_ n3_; clear hb hbox hg; have hcz5_0 : w4.cell? ⟨gb242, 0, none⟩ = some (.int .i64 a0_0) := (blk_cell BK242.out 0).trans rfl; have hcz5_1 : w4.cell? ⟨gb242, 1, none⟩ = some (.int .i64 a0_1) := (blk_cell BK242.out 1).trans rfl; have hcz5_2 : w4.cell? ⟨gb242, 2, none⟩ = some (.bool a0_2) := (blk_cell BK242.out 2).trans rfl; have hcz5_3 : w4.cell? ⟨gb242, 3, none⟩ = some (.int .i64 a0_3) := (blk_cell BK242.out 3).trans rfl; have hfz5_0 := blk_frozen BK242.out 0; have hfz5_1 := blk_frozen BK242.out 1; have hfz5_2 := blk_frozen BK242.out 2; have hfz5_3 := blk_frozen BK242.out 3) | (go_at_call 9; (with_reducible refine (ident_Put.calls k a0_0 a0_1 a0_2 a0_3 t243 t244 _ A2.out).mono ?_); rintro e w6 ⟨rfl, hb⟩; have n0_ := Aside0.mk (blk_below (g := gb242) (o := .cells #[.int .i64 a0_0, .int .i64 a0_1, .bool a0_2, .int .i64 a0_3] 23 (0, 0)) (by (with_reducible repeat (first | refine blk_drewN ?_ _ | refine blk_drew ?_ | refine blk_alloc ?_ _)); exact BK242.out) hb); have n1_ := Aside0.mk (below_step (by repeat (first | (with_reducible first | exact HB.out | apply below_alloc | apply pw_below_drewN | apply below_drew1 | refine below_set ?_ GE242.out) | exact HB.out)) hb); clear BK242; clear HB; have BK242 := n0_; have HB := n1_; clear n0_ n1_; (try clear hb); (try clear hb2); (try clear hk); (try clear hi))))
  (try simp only [Act.put, List.setIfInBounds_toArray, List.set_cons_zero, List.set_cons_succ])
  go_cut [24] (fun v24 wc => ∃ (kq : Nat) (x24_2 : Bool), v24 = .bool x24_2 ∧ Aside0 (gantletlaw05_IdentSizes.j0 kq t243 t244 x24_2 a0_0 a0_1 a0_2 a0_3 = some r) ∧ Aside0 (kq ≤ k) ∧ Aside0 (wc.heap[gb242]? = some (.cells #[.int .i64 a0_0, .int .i64 a0_1, .bool a0_2, .int .i64 a0_3] 23 (0, 0))) ∧ Aside0 (Below w.heap.size w wc))
  case first =>
    have H := HC3.out
    clear HC3
    replace H := Option.bind_eq_some_iff.mp H
    obtain ⟨t245, A70, H⟩ := H
    replace H : (if t245 = true then (if t244 = 0 then (gantletlaw05_IdentSizes.j0 k t243 t244 ((t243.size : Int) == 0) a0_0 a0_1 a0_2 a0_3) else (gantletlaw05_IdentSizes.j0 k t243 t244 true a0_0 a0_1 a0_2 a0_3)) else (gantletlaw05_IdentSizes.j0 k t243 t244 true a0_0 a0_1 a0_2 a0_3)) = some r := H
    have A7 := Aside0.mk A70
    clear A70
    by_cases c8 : t245 = true
    · subst c8
      have H1 : (if t244 = 0 then (gantletlaw05_IdentSizes.j0 k t243 t244 ((t243.size : Int) == 0) a0_0 a0_1 a0_2 a0_3) else (gantletlaw05_IdentSizes.j0 k t243 t244 true a0_0 a0_1 a0_2 a0_3)) = some r := by rw [if_pos rfl] at H; exact H
      clear H
      have H := H1
      clear H1
      by_cases c9 : t244 = 0
      · rw [if_pos c9] at H
        have c9b0 : (t244 == 0) = true := beq_iff_eq.mpr c9
        have c9b1 : (t244 != 0) = false := bne_eq_false_iff_eq.mpr c9
        clear c9
        (first | rw [c9b0] | (simp only [i64_w, i32_w]; rw [c9b0]) | skip)
        have H' := Aside0.mk H
        clear H
        go_wp2_with (first | (go_at_call 11; (with_reducible refine (gantletlaw05_awake.calls k  true _ A7.out).mono ?_); rintro e w10 ⟨rfl, hb⟩; have n0_ := Aside0.mk (blk_below (g := gb242) (o := .cells #[.int .i64 a0_0, .int .i64 a0_1, .bool a0_2, .int .i64 a0_3] 23 (0, 0)) (by (with_reducible repeat (first | refine blk_drewN ?_ _ | refine blk_drew ?_ | refine blk_alloc ?_ _)); exact BK242.out) hb); have n1_ := Aside0.mk (below_step (by repeat (first | (with_reducible first | exact HB.out | apply below_alloc | apply pw_below_drewN | apply below_drew1 | refine below_set ?_ GE242.out) | exact HB.out)) hb); clear BK242; clear HB; have BK242 := n0_; have HB := n1_; clear n0_ n1_; (try clear hb); (try clear hb2); (try clear hk); (try clear hi)))
        repeat (go_quiet (first | (go_at_call 11; (with_reducible refine (gantletlaw05_awake.calls k  true _ A7.out).mono ?_); rintro e w10 ⟨rfl, hb⟩; have n0_ := Aside0.mk (blk_below (g := gb242) (o := .cells #[.int .i64 a0_0, .int .i64 a0_1, .bool a0_2, .int .i64 a0_3] 23 (0, 0)) (by (with_reducible repeat (first | refine blk_drewN ?_ _ | refine blk_drew ?_ | refine blk_alloc ?_ _)); exact BK242.out) hb); have n1_ := Aside0.mk (below_step (by repeat (first | (with_reducible first | exact HB.out | apply below_alloc | apply pw_below_drewN | apply below_drew1 | refine below_set ?_ GE242.out) | exact HB.out)) hb); clear BK242; clear HB; have BK242 := n0_; have HB := n1_; clear n0_ n1_; (try clear hb); (try clear hb2); (try clear hk); (try clear hi))); try go_wp2_with (first | (go_at_call 11; (with_reducible refine (gantletlaw05_awake.calls k  true _ A7.out).mono ?_); rintro e w10 ⟨rfl, hb⟩; have n0_ := Aside0.mk (blk_below (g := gb242) (o := .cells #[.int .i64 a0_0, .int .i64 a0_1, .bool a0_2, .int .i64 a0_3] 23 (0, 0)) (by (with_reducible repeat (first | refine blk_drewN ?_ _ | refine blk_drew ?_ | refine blk_alloc ?_ _)); exact BK242.out) hb); have n1_ := Aside0.mk (below_step (by repeat (first | (with_reducible first | exact HB.out | apply below_alloc | apply pw_below_drewN | apply below_drew1 | refine below_set ?_ GE242.out) | exact HB.out)) hb); clear BK242; clear HB; have BK242 := n0_; have HB := n1_; clear n0_ n1_; (try clear hb); (try clear hb2); (try clear hk); (try clear hi))))
        go_meet
        case rel => exact ⟨_, (((t243.size : Int) == 0)), (by first | rfl | (simp; done) | (simp [*]; done)), H', ⟨by first | omega | exact Nat.le_refl _⟩, ⟨by (with_reducible repeat (first | refine blk_drewN ?_ _ | refine blk_drew ?_ | refine blk_alloc ?_ _)); exact BK242.out⟩, ⟨by repeat (first | (with_reducible first | exact HB.out | apply below_alloc | apply pw_below_drewN | apply below_drew1 | refine below_set ?_ GE242.out) | exact HB.out)⟩⟩
      · rw [if_neg c9] at H
        have c9b0 : (t244 == 0) = false := beq_eq_false_iff_ne.mpr c9
        have c9b1 : (t244 != 0) = true := bne_iff_ne.mpr c9
        (first | rw [c9b0] | (simp only [i64_w, i32_w]; rw [c9b0]) | skip)
        have H' := Aside0.mk H
        clear H
        go_wp2_with (first | (go_at_call 11; (with_reducible refine (gantletlaw05_awake.calls k  true _ A7.out).mono ?_); rintro e w11 ⟨rfl, hb⟩; have n0_ := Aside0.mk (blk_below (g := gb242) (o := .cells #[.int .i64 a0_0, .int .i64 a0_1, .bool a0_2, .int .i64 a0_3] 23 (0, 0)) (by (with_reducible repeat (first | refine blk_drewN ?_ _ | refine blk_drew ?_ | refine blk_alloc ?_ _)); exact BK242.out) hb); have n1_ := Aside0.mk (below_step (by repeat (first | (with_reducible first | exact HB.out | apply below_alloc | apply pw_below_drewN | apply below_drew1 | refine below_set ?_ GE242.out) | exact HB.out)) hb); clear BK242; clear HB; have BK242 := n0_; have HB := n1_; clear n0_ n1_; (try clear hb); (try clear hb2); (try clear hk); (try clear hi)))
        repeat (go_quiet (first | (go_at_call 11; (with_reducible refine (gantletlaw05_awake.calls k  true _ A7.out).mono ?_); rintro e w11 ⟨rfl, hb⟩; have n0_ := Aside0.mk (blk_below (g := gb242) (o := .cells #[.int .i64 a0_0, .int .i64 a0_1, .bool a0_2, .int .i64 a0_3] 23 (0, 0)) (by (with_reducible repeat (first | refine blk_drewN ?_ _ | refine blk_drew ?_ | refine blk_alloc ?_ _)); exact BK242.out) hb); have n1_ := Aside0.mk (below_step (by repeat (first | (with_reducible first | exact HB.out | apply below_alloc | apply pw_below_drewN | apply below_drew1 | refine below_set ?_ GE242.out) | exact HB.out)) hb); clear BK242; clear HB; have BK242 := n0_; have HB := n1_; clear n0_ n1_; (try clear hb); (try clear hb2); (try clear hk); (try clear hi))); try go_wp2_with (first | (go_at_call 11; (with_reducible refine (gantletlaw05_awake.calls k  true _ A7.out).mono ?_); rintro e w11 ⟨rfl, hb⟩; have n0_ := Aside0.mk (blk_below (g := gb242) (o := .cells #[.int .i64 a0_0, .int .i64 a0_1, .bool a0_2, .int .i64 a0_3] 23 (0, 0)) (by (with_reducible repeat (first | refine blk_drewN ?_ _ | refine blk_drew ?_ | refine blk_alloc ?_ _)); exact BK242.out) hb); have n1_ := Aside0.mk (below_step (by repeat (first | (with_reducible first | exact HB.out | apply below_alloc | apply pw_below_drewN | apply below_drew1 | refine below_set ?_ GE242.out) | exact HB.out)) hb); clear BK242; clear HB; have BK242 := n0_; have HB := n1_; clear n0_ n1_; (try clear hb); (try clear hb2); (try clear hk); (try clear hi))))
        go_meet
        case rel => exact ⟨_, (true), (by first | rfl | (simp; done) | (simp [*]; done)), H', ⟨by first | omega | exact Nat.le_refl _⟩, ⟨by (with_reducible repeat (first | refine blk_drewN ?_ _ | refine blk_drew ?_ | refine blk_alloc ?_ _)); exact BK242.out⟩, ⟨by repeat (first | (with_reducible first | exact HB.out | apply below_alloc | apply pw_below_drewN | apply below_drew1 | refine below_set ?_ GE242.out) | exact HB.out)⟩⟩
    · replace c8 := Bool.eq_false_iff.mpr c8
      subst c8
      have H1 : (gantletlaw05_IdentSizes.j0 k t243 t244 true a0_0 a0_1 a0_2 a0_3) = some r := by rw [if_neg (show ¬ (false = true) by decide)] at H; exact H
      clear H
      have H := H1
      clear H1
      have H' := Aside0.mk H
      clear H
      go_wp2_with (first | (go_at_call 11; (with_reducible refine (gantletlaw05_awake.calls k  false _ A7.out).mono ?_); rintro e w12 ⟨rfl, hb⟩; have n0_ := Aside0.mk (blk_below (g := gb242) (o := .cells #[.int .i64 a0_0, .int .i64 a0_1, .bool a0_2, .int .i64 a0_3] 23 (0, 0)) (by (with_reducible repeat (first | refine blk_drewN ?_ _ | refine blk_drew ?_ | refine blk_alloc ?_ _)); exact BK242.out) hb); have n1_ := Aside0.mk (below_step (by repeat (first | (with_reducible first | exact HB.out | apply below_alloc | apply pw_below_drewN | apply below_drew1 | refine below_set ?_ GE242.out) | exact HB.out)) hb); clear BK242; clear HB; have BK242 := n0_; have HB := n1_; clear n0_ n1_; (try clear hb); (try clear hb2); (try clear hk); (try clear hi)))
      repeat (go_quiet (first | (go_at_call 11; (with_reducible refine (gantletlaw05_awake.calls k  false _ A7.out).mono ?_); rintro e w12 ⟨rfl, hb⟩; have n0_ := Aside0.mk (blk_below (g := gb242) (o := .cells #[.int .i64 a0_0, .int .i64 a0_1, .bool a0_2, .int .i64 a0_3] 23 (0, 0)) (by (with_reducible repeat (first | refine blk_drewN ?_ _ | refine blk_drew ?_ | refine blk_alloc ?_ _)); exact BK242.out) hb); have n1_ := Aside0.mk (below_step (by repeat (first | (with_reducible first | exact HB.out | apply below_alloc | apply pw_below_drewN | apply below_drew1 | refine below_set ?_ GE242.out) | exact HB.out)) hb); clear BK242; clear HB; have BK242 := n0_; have HB := n1_; clear n0_ n1_; (try clear hb); (try clear hb2); (try clear hk); (try clear hi))); try go_wp2_with (first | (go_at_call 11; (with_reducible refine (gantletlaw05_awake.calls k  false _ A7.out).mono ?_); rintro e w12 ⟨rfl, hb⟩; have n0_ := Aside0.mk (blk_below (g := gb242) (o := .cells #[.int .i64 a0_0, .int .i64 a0_1, .bool a0_2, .int .i64 a0_3] 23 (0, 0)) (by (with_reducible repeat (first | refine blk_drewN ?_ _ | refine blk_drew ?_ | refine blk_alloc ?_ _)); exact BK242.out) hb); have n1_ := Aside0.mk (below_step (by repeat (first | (with_reducible first | exact HB.out | apply below_alloc | apply pw_below_drewN | apply below_drew1 | refine below_set ?_ GE242.out) | exact HB.out)) hb); clear BK242; clear HB; have BK242 := n0_; have HB := n1_; clear n0_ n1_; (try clear hb); (try clear hb2); (try clear hk); (try clear hi))))
      go_meet
      case rel => exact ⟨_, (true), (by first | rfl | (simp; done) | (simp [*]; done)), H', ⟨by first | omega | exact Nat.le_refl _⟩, ⟨by (with_reducible repeat (first | refine blk_drewN ?_ _ | refine blk_drew ?_ | refine blk_alloc ?_ _)); exact BK242.out⟩, ⟨by repeat (first | (with_reducible first | exact HB.out | apply below_alloc | apply pw_below_drewN | apply below_drew1 | refine below_set ?_ GE242.out) | exact HB.out)⟩⟩
  case rest =>
    clear HC3
    try clear p2
    try clear c8
    try clear c9
    try clear c9b0
    try clear c9b1
    try clear hcz5_0
    try clear hcz5_1
    try clear hcz5_2
    try clear hcz5_3
    try clear hfz5_0
    try clear hfz5_1
    try clear hfz5_2
    try clear hfz5_3
    obtain ⟨kq, x24_2, rfl, HA, HJ2, BK242, HB⟩ := hcut
    cases kq with
    | zero => exact absurd HA.out (by simp [gantletlaw05_IdentSizes.j0])
    | succ kj2 =>
      have H := HA.out
      clear HA
      simp only [gantletlaw05_IdentSizes.j0] at H
      by_cases c13 : x24_2 = true
      · subst c13
        have H1 : ((gantletlaw05_awake.f kj2).bind fun t246 => (if t246 = true then (some (t244 != 0)) else (some false))) = some r := by rw [if_pos rfl] at H; exact H
        clear H
        have H := H1
        clear H1
        replace H := Option.bind_eq_some_iff.mp H
        obtain ⟨t246, A140, H⟩ := H
        replace H : (if t246 = true then (some (t244 != 0)) else (some false)) = some r := H
        have A14 := Aside0.mk A140
        clear A140
        by_cases c15 : t246 = true
        · subst c15
          have H1 : (some (t244 != 0)) = some r := by rw [if_pos rfl] at H; exact H
          clear H
          have H := H1
          clear H1
          obtain rfl := Option.some.inj H
          go_wp2_with (first | (go_at_call 11; (with_reducible refine (gantletlaw05_awake.calls kj2  true _ A14.out).mono ?_); rintro e w16 ⟨rfl, hb⟩; have n0_ := Aside0.mk (blk_below (g := gb242) (o := .cells #[.int .i64 a0_0, .int .i64 a0_1, .bool a0_2, .int .i64 a0_3] 23 (0, 0)) (by (with_reducible repeat (first | refine blk_drewN ?_ _ | refine blk_drew ?_ | refine blk_alloc ?_ _)); exact BK242.out) hb); have n1_ := Aside0.mk (below_step (by repeat (first | (with_reducible first | exact HB.out | apply below_alloc | apply pw_below_drewN | apply below_drew1 | refine below_set ?_ GE242.out) | exact HB.out)) hb); clear BK242; clear HB; have BK242 := n0_; have HB := n1_; clear n0_ n1_; (try clear hb); (try clear hb2); (try clear hk); (try clear hi)))
          repeat (go_quiet (first | (go_at_call 11; (with_reducible refine (gantletlaw05_awake.calls kj2  true _ A14.out).mono ?_); rintro e w16 ⟨rfl, hb⟩; have n0_ := Aside0.mk (blk_below (g := gb242) (o := .cells #[.int .i64 a0_0, .int .i64 a0_1, .bool a0_2, .int .i64 a0_3] 23 (0, 0)) (by (with_reducible repeat (first | refine blk_drewN ?_ _ | refine blk_drew ?_ | refine blk_alloc ?_ _)); exact BK242.out) hb); have n1_ := Aside0.mk (below_step (by repeat (first | (with_reducible first | exact HB.out | apply below_alloc | apply pw_below_drewN | apply below_drew1 | refine below_set ?_ GE242.out) | exact HB.out)) hb); clear BK242; clear HB; have BK242 := n0_; have HB := n1_; clear n0_ n1_; (try clear hb); (try clear hb2); (try clear hk); (try clear hi))); try go_wp2_with (first | (go_at_call 11; (with_reducible refine (gantletlaw05_awake.calls kj2  true _ A14.out).mono ?_); rintro e w16 ⟨rfl, hb⟩; have n0_ := Aside0.mk (blk_below (g := gb242) (o := .cells #[.int .i64 a0_0, .int .i64 a0_1, .bool a0_2, .int .i64 a0_3] 23 (0, 0)) (by (with_reducible repeat (first | refine blk_drewN ?_ _ | refine blk_drew ?_ | refine blk_alloc ?_ _)); exact BK242.out) hb); have n1_ := Aside0.mk (below_step (by repeat (first | (with_reducible first | exact HB.out | apply below_alloc | apply pw_below_drewN | apply below_drew1 | refine below_set ?_ GE242.out) | exact HB.out)) hb); clear BK242; clear HB; have BK242 := n0_; have HB := n1_; clear n0_ n1_; (try clear hb); (try clear hb2); (try clear hk); (try clear hi))))
          go_ret
          exact ⟨by first | rfl | (simp [errW_none, errW_some] <;> rfl) | (simp [*, errW_none, errW_some] <;> rfl), by repeat (first | (with_reducible first | exact HB.out | apply below_alloc | apply pw_below_drewN | apply below_drew1 | refine below_set ?_ GE242.out) | exact HB.out)⟩
        · replace c15 := Bool.eq_false_iff.mpr c15
          subst c15
          have H1 : (some false) = some r := by rw [if_neg (show ¬ (false = true) by decide)] at H; exact H
          clear H
          have H := H1
          clear H1
          obtain rfl := Option.some.inj H
          go_wp2_with (first | (go_at_call 11; (with_reducible refine (gantletlaw05_awake.calls kj2  false _ A14.out).mono ?_); rintro e w17 ⟨rfl, hb⟩; have n0_ := Aside0.mk (blk_below (g := gb242) (o := .cells #[.int .i64 a0_0, .int .i64 a0_1, .bool a0_2, .int .i64 a0_3] 23 (0, 0)) (by (with_reducible repeat (first | refine blk_drewN ?_ _ | refine blk_drew ?_ | refine blk_alloc ?_ _)); exact BK242.out) hb); have n1_ := Aside0.mk (below_step (by repeat (first | (with_reducible first | exact HB.out | apply below_alloc | apply pw_below_drewN | apply below_drew1 | refine below_set ?_ GE242.out) | exact HB.out)) hb); clear BK242; clear HB; have BK242 := n0_; have HB := n1_; clear n0_ n1_; (try clear hb); (try clear hb2); (try clear hk); (try clear hi)))
          repeat (go_quiet (first | (go_at_call 11; (with_reducible refine (gantletlaw05_awake.calls kj2  false _ A14.out).mono ?_); rintro e w17 ⟨rfl, hb⟩; have n0_ := Aside0.mk (blk_below (g := gb242) (o := .cells #[.int .i64 a0_0, .int .i64 a0_1, .bool a0_2, .int .i64 a0_3] 23 (0, 0)) (by (with_reducible repeat (first | refine blk_drewN ?_ _ | refine blk_drew ?_ | refine blk_alloc ?_ _)); exact BK242.out) hb); have n1_ := Aside0.mk (below_step (by repeat (first | (with_reducible first | exact HB.out | apply below_alloc | apply pw_below_drewN | apply below_drew1 | refine below_set ?_ GE242.out) | exact HB.out)) hb); clear BK242; clear HB; have BK242 := n0_; have HB := n1_; clear n0_ n1_; (try clear hb); (try clear hb2); (try clear hk); (try clear hi))); try go_wp2_with (first | (go_at_call 11; (with_reducible refine (gantletlaw05_awake.calls kj2  false _ A14.out).mono ?_); rintro e w17 ⟨rfl, hb⟩; have n0_ := Aside0.mk (blk_below (g := gb242) (o := .cells #[.int .i64 a0_0, .int .i64 a0_1, .bool a0_2, .int .i64 a0_3] 23 (0, 0)) (by (with_reducible repeat (first | refine blk_drewN ?_ _ | refine blk_drew ?_ | refine blk_alloc ?_ _)); exact BK242.out) hb); have n1_ := Aside0.mk (below_step (by repeat (first | (with_reducible first | exact HB.out | apply below_alloc | apply pw_below_drewN | apply below_drew1 | refine below_set ?_ GE242.out) | exact HB.out)) hb); clear BK242; clear HB; have BK242 := n0_; have HB := n1_; clear n0_ n1_; (try clear hb); (try clear hb2); (try clear hk); (try clear hi))))
          go_ret
          exact ⟨by first | rfl | (simp [errW_none, errW_some] <;> rfl) | (simp [*, errW_none, errW_some] <;> rfl), by repeat (first | (with_reducible first | exact HB.out | apply below_alloc | apply pw_below_drewN | apply below_drew1 | refine below_set ?_ GE242.out) | exact HB.out)⟩
      · replace c13 := Bool.eq_false_iff.mpr c13
        subst c13
        have H1 : ((ident_Put.f kj2 0 a0_1 false 0).bind fun bt247 => (if a0_1 ≥ 31 then (gantletlaw05_IdentSizes.l0 kj2 t243 bt247.1 1 a0_1 a0_0 a0_1 a0_2 a0_3) else (if (t243.size : Int) = 1 then (if (bt247.1.size : Int) = 1 then (if 1 ≤ (t243.size : Int) then (if 1 ≤ (bt247.1.size : Int) then (if (t243.extract 1 t243.size).toList = (bt247.1.extract 1 bt247.1.size).toList then (if 0 < (t243.size : Int) then (if 0 < (bt247.1.size : Int) then (if (Int.tmod (wrap64 (bt t243 0)) 32) = (Int.tmod (wrap64 (bt bt247.1 0)) 32) then (if (wrap64 (Int.tdiv (wrap64 (bt t243 0)) 64)) = a0_0 then (some (((Int.tmod (wrap64 (Int.tdiv (wrap64 (bt t243 0)) 32)) 2) == 1) == a0_2)) else (some false)) else (some false)) else (none)) else (none)) else (some false)) else (none)) else (none)) else (some false)) else (some false)))) = some r := by rw [if_neg (show ¬ (false = true) by decide)] at H; exact H
        clear H
        have H := H1
        clear H1
        replace H := Option.bind_eq_some_iff.mp H
        obtain ⟨⟨t247, t248⟩, A180, H⟩ := H
        replace H : (if a0_1 ≥ 31 then (gantletlaw05_IdentSizes.l0 kj2 t243 t247 1 a0_1 a0_0 a0_1 a0_2 a0_3) else (if (t243.size : Int) = 1 then (if (t247.size : Int) = 1 then (if 1 ≤ (t243.size : Int) then (if 1 ≤ (t247.size : Int) then (if (t243.extract 1 t243.size).toList = (t247.extract 1 t247.size).toList then (if 0 < (t243.size : Int) then (if 0 < (t247.size : Int) then (if (Int.tmod (wrap64 (bt t243 0)) 32) = (Int.tmod (wrap64 (bt t247 0)) 32) then (if (wrap64 (Int.tdiv (wrap64 (bt t243 0)) 64)) = a0_0 then (some (((Int.tmod (wrap64 (Int.tdiv (wrap64 (bt t243 0)) 32)) 2) == 1) == a0_2)) else (some false)) else (some false)) else (none)) else (none)) else (some false)) else (none)) else (none)) else (some false)) else (some false))) = some r := H
        have A18 := Aside0.mk A180
        clear A180
        by_cases c19 : a0_1 ≥ 31
        · rw [if_pos c19] at H
          have c19b0 : decide (31 ≤ a0_1) = true := decide_eq_true c19
          clear c19
          have H' := Aside0.mk H
          clear H
          have hcz20_0 : wc.cell? ⟨gb242, 0, none⟩ = some (.int .i64 a0_0) := (blk_cell BK242.out 0).trans rfl
          have hcz20_1 : wc.cell? ⟨gb242, 1, none⟩ = some (.int .i64 a0_1) := (blk_cell BK242.out 1).trans rfl
          have hcz20_2 : wc.cell? ⟨gb242, 2, none⟩ = some (.bool a0_2) := (blk_cell BK242.out 2).trans rfl
          have hcz20_3 : wc.cell? ⟨gb242, 3, none⟩ = some (.int .i64 a0_3) := (blk_cell BK242.out 3).trans rfl
          have hfz20_0 := blk_frozen BK242.out 0
          have hfz20_1 := blk_frozen BK242.out 1
          have hfz20_2 := blk_frozen BK242.out 2
          have hfz20_3 := blk_frozen BK242.out 3
          go_wp2_with (first | (go_at_call 9; (with_reducible refine (ident_Put.calls kj2 0 a0_1 false 0 t247 t248 _ A18.out).mono ?_); rintro e w21 ⟨rfl, hb⟩; have n0_ := Aside0.mk (blk_below (g := gb242) (o := .cells #[.int .i64 a0_0, .int .i64 a0_1, .bool a0_2, .int .i64 a0_3] 23 (0, 0)) (by (with_reducible repeat (first | refine blk_drewN ?_ _ | refine blk_drew ?_ | refine blk_alloc ?_ _)); exact BK242.out) hb); have n1_ := Aside0.mk (below_step (by repeat (first | (with_reducible first | exact HB.out | apply below_alloc | apply pw_below_drewN | apply below_drew1 | refine below_set ?_ GE242.out) | exact HB.out)) hb); clear BK242; clear HB; have BK242 := n0_; have HB := n1_; clear n0_ n1_; (try clear hb); (try clear hb2); (try clear hk); (try clear hi); have hcz22_0 : w21.cell? ⟨gb242, 0, none⟩ = some (.int .i64 a0_0) := (blk_cell BK242.out 0).trans rfl; have hcz22_1 : w21.cell? ⟨gb242, 1, none⟩ = some (.int .i64 a0_1) := (blk_cell BK242.out 1).trans rfl; have hcz22_2 : w21.cell? ⟨gb242, 2, none⟩ = some (.bool a0_2) := (blk_cell BK242.out 2).trans rfl; have hcz22_3 : w21.cell? ⟨gb242, 3, none⟩ = some (.int .i64 a0_3) := (blk_cell BK242.out 3).trans rfl; have hfz22_0 := blk_frozen BK242.out 0; have hfz22_1 := blk_frozen BK242.out 1; have hfz22_2 := blk_frozen BK242.out 2; have hfz22_3 := blk_frozen BK242.out 3))
          repeat (go_quiet (first | (go_at_call 9; (with_reducible refine (ident_Put.calls kj2 0 a0_1 false 0 t247 t248 _ A18.out).mono ?_); rintro e w21 ⟨rfl, hb⟩; have n0_ := Aside0.mk (blk_below (g := gb242) (o := .cells #[.int .i64 a0_0, .int .i64 a0_1, .bool a0_2, .int .i64 a0_3] 23 (0, 0)) (by (with_reducible repeat (first | refine blk_drewN ?_ _ | refine blk_drew ?_ | refine blk_alloc ?_ _)); exact BK242.out) hb); have n1_ := Aside0.mk (below_step (by repeat (first | (with_reducible first | exact HB.out | apply below_alloc | apply pw_below_drewN | apply below_drew1 | refine below_set ?_ GE242.out) | exact HB.out)) hb); clear BK242; clear HB; have BK242 := n0_; have HB := n1_; clear n0_ n1_; (try clear hb); (try clear hb2); (try clear hk); (try clear hi); have hcz22_0 : w21.cell? ⟨gb242, 0, none⟩ = some (.int .i64 a0_0) := (blk_cell BK242.out 0).trans rfl; have hcz22_1 : w21.cell? ⟨gb242, 1, none⟩ = some (.int .i64 a0_1) := (blk_cell BK242.out 1).trans rfl; have hcz22_2 : w21.cell? ⟨gb242, 2, none⟩ = some (.bool a0_2) := (blk_cell BK242.out 2).trans rfl; have hcz22_3 : w21.cell? ⟨gb242, 3, none⟩ = some (.int .i64 a0_3) := (blk_cell BK242.out 3).trans rfl; have hfz22_0 := blk_frozen BK242.out 0; have hfz22_1 := blk_frozen BK242.out 1; have hfz22_2 := blk_frozen BK242.out 2; have hfz22_3 := blk_frozen BK242.out 3)); try go_wp2_with (first | (go_at_call 9; (with_reducible refine (ident_Put.calls kj2 0 a0_1 false 0 t247 t248 _ A18.out).mono ?_); rintro e w21 ⟨rfl, hb⟩; have n0_ := Aside0.mk (blk_below (g := gb242) (o := .cells #[.int .i64 a0_0, .int .i64 a0_1, .bool a0_2, .int .i64 a0_3] 23 (0, 0)) (by (with_reducible repeat (first | refine blk_drewN ?_ _ | refine blk_drew ?_ | refine blk_alloc ?_ _)); exact BK242.out) hb); have n1_ := Aside0.mk (below_step (by repeat (first | (with_reducible first | exact HB.out | apply below_alloc | apply pw_below_drewN | apply below_drew1 | refine below_set ?_ GE242.out) | exact HB.out)) hb); clear BK242; clear HB; have BK242 := n0_; have HB := n1_; clear n0_ n1_; (try clear hb); (try clear hb2); (try clear hk); (try clear hi); have hcz22_0 : w21.cell? ⟨gb242, 0, none⟩ = some (.int .i64 a0_0) := (blk_cell BK242.out 0).trans rfl; have hcz22_1 : w21.cell? ⟨gb242, 1, none⟩ = some (.int .i64 a0_1) := (blk_cell BK242.out 1).trans rfl; have hcz22_2 : w21.cell? ⟨gb242, 2, none⟩ = some (.bool a0_2) := (blk_cell BK242.out 2).trans rfl; have hcz22_3 : w21.cell? ⟨gb242, 3, none⟩ = some (.int .i64 a0_3) := (blk_cell BK242.out 3).trans rfl; have hfz22_0 := blk_frozen BK242.out 0; have hfz22_1 := blk_frozen BK242.out 1; have hfz22_2 := blk_frozen BK242.out 2; have hfz22_3 := blk_frozen BK242.out 3)))
          go_loopg [7, 8] kj2 (fun kq v7 v8 w' => ∃ (x7_2 : Int) (x8_2 : Int), v7 = .int .i64 x7_2 ∧ v8 = .int .i64 x8_2 ∧ Aside0 (gantletlaw05_IdentSizes.l0 kq t243 t247 x7_2 x8_2 a0_0 a0_1 a0_2 a0_3 = some r) ∧ Aside0 (kq ≤ kj2) ∧ Aside0 (w'.heap[gb242]? = some (.cells #[.int .i64 a0_0, .int .i64 a0_1, .bool a0_2, .int .i64 a0_3] 23 (0, 0))) ∧ Aside0 (Below w.heap.size w w'))
          case atStart => exact ⟨(1), (a0_1), (by first | rfl | (simp; done) | (simp [*]; done)), (by first | rfl | (simp; done) | (simp [*]; done)), H', ⟨Nat.le_refl _⟩, ⟨by (with_reducible repeat (first | refine blk_drewN ?_ _ | refine blk_drew ?_ | refine blk_alloc ?_ _)); exact BK242.out⟩, ⟨by repeat (first | (with_reducible first | exact HB.out | apply below_alloc | apply pw_below_drewN | apply below_drew1 | refine below_set ?_ GE242.out) | exact HB.out)⟩⟩
          case round =>
            clear H'
            try clear c1
            try clear p2
            try clear p6
            try clear c8
            try clear c9
            try clear c9b0
            try clear c9b1
            try clear c13
            try clear c15
            try clear c19
            try clear c19b0
            try clear hcz20_0
            try clear hcz20_1
            try clear hcz20_2
            try clear hcz20_3
            try clear hcz22_0
            try clear hcz22_1
            try clear hcz22_2
            try clear hcz22_3
            try clear hcz5_0
            try clear hcz5_1
            try clear hcz5_2
            try clear hcz5_3
            try clear hfz20_0
            try clear hfz20_1
            try clear hfz20_2
            try clear hfz20_3
            try clear hfz22_0
            try clear hfz22_1
            try clear hfz22_2
            try clear hfz22_3
            try clear hfz5_0
            try clear hfz5_1
            try clear hfz5_2
            try clear hfz5_3
            try clear p2
            obtain ⟨x7_2, x8_2, rfl, rfl, HA, HK2, BK242, HB⟩ := hrel
            cases gk with
            | zero => exact absurd HA.out (by simp [gantletlaw05_IdentSizes.l0])
            | succ k2 =>
              have H := HA.out
              clear HA
              simp only [gantletlaw05_IdentSizes.l0] at H
              by_cases c23 : x8_2 > 0
              · rw [if_pos c23] at H
                have c23b0 : decide (0 < x8_2) = true := decide_eq_true c23
                clear c23
                have H' := Aside0.mk H
                clear H
                go_wp2
                repeat (go_quiet (fail); try go_wp2)
                go_roundg k2
                case measure => have := HJ2.out; have := HK2.out; omega
                case rel => exact ⟨(wrap64 (x7_2 + 1)), (wrap64 (Int.tdiv x8_2 128)), (by first | rfl | (simp; done) | (simp [*]; done)), (by first | rfl | (simp; done) | (simp [*]; done)), H', ⟨by have := HJ2.out; have := HK2.out; omega⟩, ⟨by (with_reducible repeat (first | refine blk_drewN ?_ _ | refine blk_drew ?_ | refine blk_alloc ?_ _)); exact BK242.out⟩, ⟨by repeat (first | (with_reducible first | exact HB.out | apply below_alloc | apply pw_below_drewN | apply below_drew1 | refine below_set ?_ GE242.out) | exact HB.out)⟩⟩
              · rw [if_neg c23] at H
                have c23b0 : decide (0 < x8_2) = false := decide_eq_false c23
                clear c23
                by_cases c24 : (t243.size : Int) = x7_2
                · rw [if_pos c24] at H
                  have c24b0 : ((t243.size : Int) == x7_2) = true := beq_iff_eq.mpr c24
                  have c24b1 : ((t243.size : Int) != x7_2) = false := bne_eq_false_iff_eq.mpr c24
                  clear c24
                  by_cases c25 : (t247.size : Int) = x7_2
                  · rw [if_pos c25] at H
                    have c25b0 : ((t247.size : Int) == x7_2) = true := beq_iff_eq.mpr c25
                    have c25b1 : ((t247.size : Int) != x7_2) = false := bne_eq_false_iff_eq.mpr c25
                    clear c25
                    by_cases c26 : 1 ≤ (t243.size : Int)
                    · rw [if_pos c26] at H
                      have c26b0 := eq_true c26
                      have c26b1 : decide (1 ≤ (t243.size : Int)) = true := decide_eq_true c26
                      clear c26
                      by_cases c27 : 1 ≤ (t247.size : Int)
                      · rw [if_pos c27] at H
                        have c27b0 := eq_true c27
                        have c27b1 : decide (1 ≤ (t247.size : Int)) = true := decide_eq_true c27
                        clear c27
                        by_cases c28 : (t243.extract 1 t243.size).toList = (t247.extract 1 t247.size).toList
                        · rw [if_pos c28] at H
                          have c28b0 : ((t243.extract 1 t243.size).toList == (t247.extract 1 t247.size).toList) = true := beq_iff_eq.mpr c28
                          have c28b1 : ((t243.extract 1 t243.size).toList != (t247.extract 1 t247.size).toList) = false := bne_eq_false_iff_eq.mpr c28
                          clear c28
                          by_cases c29 : 0 < (t243.size : Int)
                          · rw [if_pos c29] at H
                            have c29b0 : decide (0 < (t243.size : Int)) = true := decide_eq_true c29
                            have c29b1 : decide (0 < t243.size) = true := decide_eq_true (by omega)
                            clear c29
                            by_cases c31 : 0 < (t247.size : Int)
                            · rw [if_pos c31] at H
                              have c31b0 : decide (0 < (t247.size : Int)) = true := decide_eq_true c31
                              have c31b1 : decide (0 < t247.size) = true := decide_eq_true (by omega)
                              clear c31
                              by_cases c33 : (Int.tmod (wrap64 (bt t243 0)) 32) = (Int.tmod (wrap64 (bt t247 0)) 32)
                              · rw [if_pos c33] at H
                                have c33b0 : ((Int.tmod (wrap64 (bt t243 0)) 32) == (Int.tmod (wrap64 (bt t247 0)) 32)) = true := beq_iff_eq.mpr c33
                                have c33b1 : ((Int.tmod (wrap64 (bt t243 0)) 32) != (Int.tmod (wrap64 (bt t247 0)) 32)) = false := bne_eq_false_iff_eq.mpr c33
                                clear c33
                                by_cases c35 : (wrap64 (Int.tdiv (wrap64 (bt t243 0)) 64)) = a0_0
                                · rw [if_pos c35] at H
                                  have c35b0 : ((wrap64 (Int.tdiv (wrap64 (bt t243 0)) 64)) == a0_0) = true := beq_iff_eq.mpr c35
                                  have c35b1 : ((wrap64 (Int.tdiv (wrap64 (bt t243 0)) 64)) != a0_0) = false := bne_eq_false_iff_eq.mpr c35
                                  clear c35
                                  obtain rfl := Option.some.inj H
                                  have p30 : 0 ≤ (0 : Int) := (by omega)
                                  have q30 : 0 < t243.size := (by have : (0 : Int) < (t243.size : Int) := of_decide_eq_true (by first | (with_reducible assumption) | assumption); omega)
                                  have hx30 : ∀ h : 0 < t243.size, ((t243[0]'h).toNat : Int) = bt t243 0 := bt_at t243 0
                                  clear p30
                                  have qi30 : (0 < (t243.size : Int)) = True := eq_true (of_decide_eq_true (by first | (with_reducible assumption) | assumption))
                                  replace q30 := eq_true q30
                                  have p32 : 0 ≤ (0 : Int) := (by omega)
                                  have q32 : 0 < t247.size := (by have : (0 : Int) < (t247.size : Int) := of_decide_eq_true (by first | (with_reducible assumption) | assumption); omega)
                                  have hx32 : ∀ h : 0 < t247.size, ((t247[0]'h).toNat : Int) = bt t247 0 := bt_at t247 0
                                  clear p32
                                  have qi32 : (0 < (t247.size : Int)) = True := eq_true (of_decide_eq_true (by first | (with_reducible assumption) | assumption))
                                  replace q32 := eq_true q32
                                  have p34 : 0 ≤ (0 : Int) := (by omega)
                                  have q34 : 0 < t243.size := (by have : (0 : Int) < (t243.size : Int) := of_decide_eq_true (by first | (with_reducible assumption) | assumption); omega)
                                  have hx34 : ∀ h : 0 < t243.size, ((t243[0]'h).toNat : Int) = bt t243 0 := bt_at t243 0
                                  clear p34
                                  have qi34 : (0 < (t243.size : Int)) = True := eq_true (of_decide_eq_true (by first | (with_reducible assumption) | assumption))
                                  replace q34 := eq_true q34
                                  have hcz37_0 : wr.cell? ⟨gb242, 0, none⟩ = some (.int .i64 a0_0) := (blk_cell BK242.out 0).trans rfl
                                  have hcz37_1 : wr.cell? ⟨gb242, 1, none⟩ = some (.int .i64 a0_1) := (blk_cell BK242.out 1).trans rfl
                                  have hcz37_2 : wr.cell? ⟨gb242, 2, none⟩ = some (.bool a0_2) := (blk_cell BK242.out 2).trans rfl
                                  have hcz37_3 : wr.cell? ⟨gb242, 3, none⟩ = some (.int .i64 a0_3) := (blk_cell BK242.out 3).trans rfl
                                  have hfz37_0 := blk_frozen BK242.out 0
                                  have hfz37_1 := blk_frozen BK242.out 1
                                  have hfz37_2 := blk_frozen BK242.out 2
                                  have hfz37_3 := blk_frozen BK242.out 3
                                  have p36 : 0 ≤ (0 : Int) := (by omega)
                                  have q36 : 0 < t243.size := (by have : (0 : Int) < (t243.size : Int) := of_decide_eq_true (by first | (with_reducible assumption) | assumption); omega)
                                  have hx36 : ∀ h : 0 < t243.size, ((t243[0]'h).toNat : Int) = bt t243 0 := bt_at t243 0
                                  clear p36
                                  have qi36 : (0 < (t243.size : Int)) = True := eq_true (of_decide_eq_true (by first | (with_reducible assumption) | assumption))
                                  replace q36 := eq_true q36
                                  go_wp2
                                  repeat (go_quiet (fail); try go_wp2)
                                  go_ret
                                  exact ⟨by first | rfl | (simp [errW_none, errW_some] <;> rfl) | (simp [*, errW_none, errW_some] <;> rfl), by repeat (first | (with_reducible first | exact HB.out | apply below_alloc | apply pw_below_drewN | apply below_drew1 | refine below_set ?_ GE242.out) | exact HB.out)⟩
                                · rw [if_neg c35] at H
                                  have c35b0 : ((wrap64 (Int.tdiv (wrap64 (bt t243 0)) 64)) == a0_0) = false := beq_eq_false_iff_ne.mpr c35
                                  have c35b1 : ((wrap64 (Int.tdiv (wrap64 (bt t243 0)) 64)) != a0_0) = true := bne_iff_ne.mpr c35
                                  obtain rfl := Option.some.inj H
                                  have p30 : 0 ≤ (0 : Int) := (by omega)
                                  have q30 : 0 < t243.size := (by have : (0 : Int) < (t243.size : Int) := of_decide_eq_true (by first | (with_reducible assumption) | assumption); omega)
                                  have hx30 : ∀ h : 0 < t243.size, ((t243[0]'h).toNat : Int) = bt t243 0 := bt_at t243 0
                                  clear p30
                                  have qi30 : (0 < (t243.size : Int)) = True := eq_true (of_decide_eq_true (by first | (with_reducible assumption) | assumption))
                                  replace q30 := eq_true q30
                                  have p32 : 0 ≤ (0 : Int) := (by omega)
                                  have q32 : 0 < t247.size := (by have : (0 : Int) < (t247.size : Int) := of_decide_eq_true (by first | (with_reducible assumption) | assumption); omega)
                                  have hx32 : ∀ h : 0 < t247.size, ((t247[0]'h).toNat : Int) = bt t247 0 := bt_at t247 0
                                  clear p32
                                  have qi32 : (0 < (t247.size : Int)) = True := eq_true (of_decide_eq_true (by first | (with_reducible assumption) | assumption))
                                  replace q32 := eq_true q32
                                  have p34 : 0 ≤ (0 : Int) := (by omega)
                                  have q34 : 0 < t243.size := (by have : (0 : Int) < (t243.size : Int) := of_decide_eq_true (by first | (with_reducible assumption) | assumption); omega)
                                  have hx34 : ∀ h : 0 < t243.size, ((t243[0]'h).toNat : Int) = bt t243 0 := bt_at t243 0
                                  clear p34
                                  have qi34 : (0 < (t243.size : Int)) = True := eq_true (of_decide_eq_true (by first | (with_reducible assumption) | assumption))
                                  replace q34 := eq_true q34
                                  have hcz38_0 : wr.cell? ⟨gb242, 0, none⟩ = some (.int .i64 a0_0) := (blk_cell BK242.out 0).trans rfl
                                  have hcz38_1 : wr.cell? ⟨gb242, 1, none⟩ = some (.int .i64 a0_1) := (blk_cell BK242.out 1).trans rfl
                                  have hcz38_2 : wr.cell? ⟨gb242, 2, none⟩ = some (.bool a0_2) := (blk_cell BK242.out 2).trans rfl
                                  have hcz38_3 : wr.cell? ⟨gb242, 3, none⟩ = some (.int .i64 a0_3) := (blk_cell BK242.out 3).trans rfl
                                  have hfz38_0 := blk_frozen BK242.out 0
                                  have hfz38_1 := blk_frozen BK242.out 1
                                  have hfz38_2 := blk_frozen BK242.out 2
                                  have hfz38_3 := blk_frozen BK242.out 3
                                  go_wp2
                                  repeat (go_quiet (fail); try go_wp2)
                                  go_ret
                                  exact ⟨by first | rfl | (simp [errW_none, errW_some] <;> rfl) | (simp [*, errW_none, errW_some] <;> rfl), by repeat (first | (with_reducible first | exact HB.out | apply below_alloc | apply pw_below_drewN | apply below_drew1 | refine below_set ?_ GE242.out) | exact HB.out)⟩
                              · rw [if_neg c33] at H
                                have c33b0 : ((Int.tmod (wrap64 (bt t243 0)) 32) == (Int.tmod (wrap64 (bt t247 0)) 32)) = false := beq_eq_false_iff_ne.mpr c33
                                have c33b1 : ((Int.tmod (wrap64 (bt t243 0)) 32) != (Int.tmod (wrap64 (bt t247 0)) 32)) = true := bne_iff_ne.mpr c33
                                obtain rfl := Option.some.inj H
                                have p30 : 0 ≤ (0 : Int) := (by omega)
                                have q30 : 0 < t243.size := (by have : (0 : Int) < (t243.size : Int) := of_decide_eq_true (by first | (with_reducible assumption) | assumption); omega)
                                have hx30 : ∀ h : 0 < t243.size, ((t243[0]'h).toNat : Int) = bt t243 0 := bt_at t243 0
                                clear p30
                                have qi30 : (0 < (t243.size : Int)) = True := eq_true (of_decide_eq_true (by first | (with_reducible assumption) | assumption))
                                replace q30 := eq_true q30
                                have p32 : 0 ≤ (0 : Int) := (by omega)
                                have q32 : 0 < t247.size := (by have : (0 : Int) < (t247.size : Int) := of_decide_eq_true (by first | (with_reducible assumption) | assumption); omega)
                                have hx32 : ∀ h : 0 < t247.size, ((t247[0]'h).toNat : Int) = bt t247 0 := bt_at t247 0
                                clear p32
                                have qi32 : (0 < (t247.size : Int)) = True := eq_true (of_decide_eq_true (by first | (with_reducible assumption) | assumption))
                                replace q32 := eq_true q32
                                go_wp2
                                repeat (go_quiet (fail); try go_wp2)
                                go_ret
                                exact ⟨by first | rfl | (simp [errW_none, errW_some] <;> rfl) | (simp [*, errW_none, errW_some] <;> rfl), by repeat (first | (with_reducible first | exact HB.out | apply below_alloc | apply pw_below_drewN | apply below_drew1 | refine below_set ?_ GE242.out) | exact HB.out)⟩
                            · rw [if_neg c31] at H
                              exact absurd H (by simp)
                          · rw [if_neg c29] at H
                            exact absurd H (by simp)
                        · rw [if_neg c28] at H
                          have c28b0 : ((t243.extract 1 t243.size).toList == (t247.extract 1 t247.size).toList) = false := beq_eq_false_iff_ne.mpr c28
                          have c28b1 : ((t243.extract 1 t243.size).toList != (t247.extract 1 t247.size).toList) = true := bne_iff_ne.mpr c28
                          obtain rfl := Option.some.inj H
                          go_wp2
                          repeat (go_quiet (fail); try go_wp2)
                          go_ret
                          exact ⟨by first | rfl | (simp [errW_none, errW_some] <;> rfl) | (simp [*, errW_none, errW_some] <;> rfl), by repeat (first | (with_reducible first | exact HB.out | apply below_alloc | apply pw_below_drewN | apply below_drew1 | refine below_set ?_ GE242.out) | exact HB.out)⟩
                      · rw [if_neg c27] at H
                        exact absurd H (by simp)
                    · rw [if_neg c26] at H
                      exact absurd H (by simp)
                  · rw [if_neg c25] at H
                    have c25b0 : ((t247.size : Int) == x7_2) = false := beq_eq_false_iff_ne.mpr c25
                    have c25b1 : ((t247.size : Int) != x7_2) = true := bne_iff_ne.mpr c25
                    obtain rfl := Option.some.inj H
                    go_wp2
                    repeat (go_quiet (fail); try go_wp2)
                    go_ret
                    exact ⟨by first | rfl | (simp [errW_none, errW_some] <;> rfl) | (simp [*, errW_none, errW_some] <;> rfl), by repeat (first | (with_reducible first | exact HB.out | apply below_alloc | apply pw_below_drewN | apply below_drew1 | refine below_set ?_ GE242.out) | exact HB.out)⟩
                · rw [if_neg c24] at H
                  have c24b0 : ((t243.size : Int) == x7_2) = false := beq_eq_false_iff_ne.mpr c24
                  have c24b1 : ((t243.size : Int) != x7_2) = true := bne_iff_ne.mpr c24
                  obtain rfl := Option.some.inj H
                  go_wp2
                  repeat (go_quiet (fail); try go_wp2)
                  go_ret
                  exact ⟨by first | rfl | (simp [errW_none, errW_some] <;> rfl) | (simp [*, errW_none, errW_some] <;> rfl), by repeat (first | (with_reducible first | exact HB.out | apply below_alloc | apply pw_below_drewN | apply below_drew1 | refine below_set ?_ GE242.out) | exact HB.out)⟩
        · rw [if_neg c19] at H
          have c19b0 : decide (31 ≤ a0_1) = false := decide_eq_false c19
          clear c19
          by_cases c39 : (t243.size : Int) = 1
          · rw [if_pos c39] at H
            have c39b0 : ((t243.size : Int) == 1) = true := beq_iff_eq.mpr c39
            have c39b1 : ((t243.size : Int) != 1) = false := bne_eq_false_iff_eq.mpr c39
            clear c39
            by_cases c40 : (t247.size : Int) = 1
            · rw [if_pos c40] at H
              have c40b0 : ((t247.size : Int) == 1) = true := beq_iff_eq.mpr c40
              have c40b1 : ((t247.size : Int) != 1) = false := bne_eq_false_iff_eq.mpr c40
              clear c40
              by_cases c41 : 1 ≤ (t243.size : Int)
              · rw [if_pos c41] at H
                have c41b0 := eq_true c41
                have c41b1 : decide (1 ≤ (t243.size : Int)) = true := decide_eq_true c41
                clear c41
                by_cases c42 : 1 ≤ (t247.size : Int)
                · rw [if_pos c42] at H
                  have c42b0 := eq_true c42
                  have c42b1 : decide (1 ≤ (t247.size : Int)) = true := decide_eq_true c42
                  clear c42
                  by_cases c43 : (t243.extract 1 t243.size).toList = (t247.extract 1 t247.size).toList
                  · rw [if_pos c43] at H
                    have c43b0 : ((t243.extract 1 t243.size).toList == (t247.extract 1 t247.size).toList) = true := beq_iff_eq.mpr c43
                    have c43b1 : ((t243.extract 1 t243.size).toList != (t247.extract 1 t247.size).toList) = false := bne_eq_false_iff_eq.mpr c43
                    clear c43
                    by_cases c44 : 0 < (t243.size : Int)
                    · rw [if_pos c44] at H
                      have c44b0 : decide (0 < (t243.size : Int)) = true := decide_eq_true c44
                      have c44b1 : decide (0 < t243.size) = true := decide_eq_true (by omega)
                      clear c44
                      by_cases c46 : 0 < (t247.size : Int)
                      · rw [if_pos c46] at H
                        have c46b0 : decide (0 < (t247.size : Int)) = true := decide_eq_true c46
                        have c46b1 : decide (0 < t247.size) = true := decide_eq_true (by omega)
                        clear c46
                        by_cases c48 : (Int.tmod (wrap64 (bt t243 0)) 32) = (Int.tmod (wrap64 (bt t247 0)) 32)
                        · rw [if_pos c48] at H
                          have c48b0 : ((Int.tmod (wrap64 (bt t243 0)) 32) == (Int.tmod (wrap64 (bt t247 0)) 32)) = true := beq_iff_eq.mpr c48
                          have c48b1 : ((Int.tmod (wrap64 (bt t243 0)) 32) != (Int.tmod (wrap64 (bt t247 0)) 32)) = false := bne_eq_false_iff_eq.mpr c48
                          clear c48
                          by_cases c50 : (wrap64 (Int.tdiv (wrap64 (bt t243 0)) 64)) = a0_0
                          · rw [if_pos c50] at H
                            have c50b0 : ((wrap64 (Int.tdiv (wrap64 (bt t243 0)) 64)) == a0_0) = true := beq_iff_eq.mpr c50
                            have c50b1 : ((wrap64 (Int.tdiv (wrap64 (bt t243 0)) 64)) != a0_0) = false := bne_eq_false_iff_eq.mpr c50
                            clear c50
                            obtain rfl := Option.some.inj H
                            have hcz52_0 : wc.cell? ⟨gb242, 0, none⟩ = some (.int .i64 a0_0) := (blk_cell BK242.out 0).trans rfl
                            have hcz52_1 : wc.cell? ⟨gb242, 1, none⟩ = some (.int .i64 a0_1) := (blk_cell BK242.out 1).trans rfl
                            have hcz52_2 : wc.cell? ⟨gb242, 2, none⟩ = some (.bool a0_2) := (blk_cell BK242.out 2).trans rfl
                            have hcz52_3 : wc.cell? ⟨gb242, 3, none⟩ = some (.int .i64 a0_3) := (blk_cell BK242.out 3).trans rfl
                            have hfz52_0 := blk_frozen BK242.out 0
                            have hfz52_1 := blk_frozen BK242.out 1
                            have hfz52_2 := blk_frozen BK242.out 2
                            have hfz52_3 := blk_frozen BK242.out 3
                            go_wp2_with (first | (go_at_call 9; (with_reducible refine (ident_Put.calls kj2 0 a0_1 false 0 t247 t248 _ A18.out).mono ?_); rintro e w53 ⟨rfl, hb⟩; have n0_ := Aside0.mk (blk_below (g := gb242) (o := .cells #[.int .i64 a0_0, .int .i64 a0_1, .bool a0_2, .int .i64 a0_3] 23 (0, 0)) (by (with_reducible repeat (first | refine blk_drewN ?_ _ | refine blk_drew ?_ | refine blk_alloc ?_ _)); exact BK242.out) hb); have n1_ := Aside0.mk (below_step (by repeat (first | (with_reducible first | exact HB.out | apply below_alloc | apply pw_below_drewN | apply below_drew1 | refine below_set ?_ GE242.out) | exact HB.out)) hb); clear BK242; clear HB; have BK242 := n0_; have HB := n1_; clear n0_ n1_; (try clear hb); (try clear hb2); (try clear hk); (try clear hi); have hcz54_0 : w53.cell? ⟨gb242, 0, none⟩ = some (.int .i64 a0_0) := (blk_cell BK242.out 0).trans rfl; have hcz54_1 : w53.cell? ⟨gb242, 1, none⟩ = some (.int .i64 a0_1) := (blk_cell BK242.out 1).trans rfl; have hcz54_2 : w53.cell? ⟨gb242, 2, none⟩ = some (.bool a0_2) := (blk_cell BK242.out 2).trans rfl; have hcz54_3 : w53.cell? ⟨gb242, 3, none⟩ = some (.int .i64 a0_3) := (blk_cell BK242.out 3).trans rfl; have hfz54_0 := blk_frozen BK242.out 0; have hfz54_1 := blk_frozen BK242.out 1; have hfz54_2 := blk_frozen BK242.out 2; have hfz54_3 := blk_frozen BK242.out 3; have p45 : 0 ≤ (0 : Int) := (by omega); have q45 : 0 < t243.size := (by have : (0 : Int) < (t243.size : Int) := of_decide_eq_true (by first | (with_reducible assumption) | assumption); omega); have hx45 : ∀ h : 0 < t243.size, ((t243[0]'h).toNat : Int) = bt t243 0 := bt_at t243 0; clear p45; have qi45 : (0 < (t243.size : Int)) = True := eq_true (of_decide_eq_true (by first | (with_reducible assumption) | assumption)); replace q45 := eq_true q45; have p47 : 0 ≤ (0 : Int) := (by omega); have q47 : 0 < t247.size := (by have : (0 : Int) < (t247.size : Int) := of_decide_eq_true (by first | (with_reducible assumption) | assumption); omega); have hx47 : ∀ h : 0 < t247.size, ((t247[0]'h).toNat : Int) = bt t247 0 := bt_at t247 0; clear p47; have qi47 : (0 < (t247.size : Int)) = True := eq_true (of_decide_eq_true (by first | (with_reducible assumption) | assumption)); replace q47 := eq_true q47; have p49 : 0 ≤ (0 : Int) := (by omega); have q49 : 0 < t243.size := (by have : (0 : Int) < (t243.size : Int) := of_decide_eq_true (by first | (with_reducible assumption) | assumption); omega); have hx49 : ∀ h : 0 < t243.size, ((t243[0]'h).toNat : Int) = bt t243 0 := bt_at t243 0; clear p49; have qi49 : (0 < (t243.size : Int)) = True := eq_true (of_decide_eq_true (by first | (with_reducible assumption) | assumption)); replace q49 := eq_true q49; have p51 : 0 ≤ (0 : Int) := (by omega); have q51 : 0 < t243.size := (by have : (0 : Int) < (t243.size : Int) := of_decide_eq_true (by first | (with_reducible assumption) | assumption); omega); have hx51 : ∀ h : 0 < t243.size, ((t243[0]'h).toNat : Int) = bt t243 0 := bt_at t243 0; clear p51; have qi51 : (0 < (t243.size : Int)) = True := eq_true (of_decide_eq_true (by first | (with_reducible assumption) | assumption)); replace q51 := eq_true q51))
                            repeat (go_quiet (first | (go_at_call 9; (with_reducible refine (ident_Put.calls kj2 0 a0_1 false 0 t247 t248 _ A18.out).mono ?_); rintro e w53 ⟨rfl, hb⟩; have n0_ := Aside0.mk (blk_below (g := gb242) (o := .cells #[.int .i64 a0_0, .int .i64 a0_1, .bool a0_2, .int .i64 a0_3] 23 (0, 0)) (by (with_reducible repeat (first | refine blk_drewN ?_ _ | refine blk_drew ?_ | refine blk_alloc ?_ _)); exact BK242.out) hb); have n1_ := Aside0.mk (below_step (by repeat (first | (with_reducible first | exact HB.out | apply below_alloc | apply pw_below_drewN | apply below_drew1 | refine below_set ?_ GE242.out) | exact HB.out)) hb); clear BK242; clear HB; have BK242 := n0_; have HB := n1_; clear n0_ n1_; (try clear hb); (try clear hb2); (try clear hk); (try clear hi); have hcz54_0 : w53.cell? ⟨gb242, 0, none⟩ = some (.int .i64 a0_0) := (blk_cell BK242.out 0).trans rfl; have hcz54_1 : w53.cell? ⟨gb242, 1, none⟩ = some (.int .i64 a0_1) := (blk_cell BK242.out 1).trans rfl; have hcz54_2 : w53.cell? ⟨gb242, 2, none⟩ = some (.bool a0_2) := (blk_cell BK242.out 2).trans rfl; have hcz54_3 : w53.cell? ⟨gb242, 3, none⟩ = some (.int .i64 a0_3) := (blk_cell BK242.out 3).trans rfl; have hfz54_0 := blk_frozen BK242.out 0; have hfz54_1 := blk_frozen BK242.out 1; have hfz54_2 := blk_frozen BK242.out 2; have hfz54_3 := blk_frozen BK242.out 3; have p45 : 0 ≤ (0 : Int) := (by omega); have q45 : 0 < t243.size := (by have : (0 : Int) < (t243.size : Int) := of_decide_eq_true (by first | (with_reducible assumption) | assumption); omega); have hx45 : ∀ h : 0 < t243.size, ((t243[0]'h).toNat : Int) = bt t243 0 := bt_at t243 0; clear p45; have qi45 : (0 < (t243.size : Int)) = True := eq_true (of_decide_eq_true (by first | (with_reducible assumption) | assumption)); replace q45 := eq_true q45; have p47 : 0 ≤ (0 : Int) := (by omega); have q47 : 0 < t247.size := (by have : (0 : Int) < (t247.size : Int) := of_decide_eq_true (by first | (with_reducible assumption) | assumption); omega); have hx47 : ∀ h : 0 < t247.size, ((t247[0]'h).toNat : Int) = bt t247 0 := bt_at t247 0; clear p47; have qi47 : (0 < (t247.size : Int)) = True := eq_true (of_decide_eq_true (by first | (with_reducible assumption) | assumption)); replace q47 := eq_true q47; have p49 : 0 ≤ (0 : Int) := (by omega); have q49 : 0 < t243.size := (by have : (0 : Int) < (t243.size : Int) := of_decide_eq_true (by first | (with_reducible assumption) | assumption); omega); have hx49 : ∀ h : 0 < t243.size, ((t243[0]'h).toNat : Int) = bt t243 0 := bt_at t243 0; clear p49; have qi49 : (0 < (t243.size : Int)) = True := eq_true (of_decide_eq_true (by first | (with_reducible assumption) | assumption)); replace q49 := eq_true q49; have p51 : 0 ≤ (0 : Int) := (by omega); have q51 : 0 < t243.size := (by have : (0 : Int) < (t243.size : Int) := of_decide_eq_true (by first | (with_reducible assumption) | assumption); omega); have hx51 : ∀ h : 0 < t243.size, ((t243[0]'h).toNat : Int) = bt t243 0 := bt_at t243 0; clear p51; have qi51 : (0 < (t243.size : Int)) = True := eq_true (of_decide_eq_true (by first | (with_reducible assumption) | assumption)); replace q51 := eq_true q51)); try go_wp2_with (first | (go_at_call 9; (with_reducible refine (ident_Put.calls kj2 0 a0_1 false 0 t247 t248 _ A18.out).mono ?_); rintro e w53 ⟨rfl, hb⟩; have n0_ := Aside0.mk (blk_below (g := gb242) (o := .cells #[.int .i64 a0_0, .int .i64 a0_1, .bool a0_2, .int .i64 a0_3] 23 (0, 0)) (by (with_reducible repeat (first | refine blk_drewN ?_ _ | refine blk_drew ?_ | refine blk_alloc ?_ _)); exact BK242.out) hb); have n1_ := Aside0.mk (below_step (by repeat (first | (with_reducible first | exact HB.out | apply below_alloc | apply pw_below_drewN | apply below_drew1 | refine below_set ?_ GE242.out) | exact HB.out)) hb); clear BK242; clear HB; have BK242 := n0_; have HB := n1_; clear n0_ n1_; (try clear hb); (try clear hb2); (try clear hk); (try clear hi); have hcz54_0 : w53.cell? ⟨gb242, 0, none⟩ = some (.int .i64 a0_0) := (blk_cell BK242.out 0).trans rfl; have hcz54_1 : w53.cell? ⟨gb242, 1, none⟩ = some (.int .i64 a0_1) := (blk_cell BK242.out 1).trans rfl; have hcz54_2 : w53.cell? ⟨gb242, 2, none⟩ = some (.bool a0_2) := (blk_cell BK242.out 2).trans rfl; have hcz54_3 : w53.cell? ⟨gb242, 3, none⟩ = some (.int .i64 a0_3) := (blk_cell BK242.out 3).trans rfl; have hfz54_0 := blk_frozen BK242.out 0; have hfz54_1 := blk_frozen BK242.out 1; have hfz54_2 := blk_frozen BK242.out 2; have hfz54_3 := blk_frozen BK242.out 3; have p45 : 0 ≤ (0 : Int) := (by omega); have q45 : 0 < t243.size := (by have : (0 : Int) < (t243.size : Int) := of_decide_eq_true (by first | (with_reducible assumption) | assumption); omega); have hx45 : ∀ h : 0 < t243.size, ((t243[0]'h).toNat : Int) = bt t243 0 := bt_at t243 0; clear p45; have qi45 : (0 < (t243.size : Int)) = True := eq_true (of_decide_eq_true (by first | (with_reducible assumption) | assumption)); replace q45 := eq_true q45; have p47 : 0 ≤ (0 : Int) := (by omega); have q47 : 0 < t247.size := (by have : (0 : Int) < (t247.size : Int) := of_decide_eq_true (by first | (with_reducible assumption) | assumption); omega); have hx47 : ∀ h : 0 < t247.size, ((t247[0]'h).toNat : Int) = bt t247 0 := bt_at t247 0; clear p47; have qi47 : (0 < (t247.size : Int)) = True := eq_true (of_decide_eq_true (by first | (with_reducible assumption) | assumption)); replace q47 := eq_true q47; have p49 : 0 ≤ (0 : Int) := (by omega); have q49 : 0 < t243.size := (by have : (0 : Int) < (t243.size : Int) := of_decide_eq_true (by first | (with_reducible assumption) | assumption); omega); have hx49 : ∀ h : 0 < t243.size, ((t243[0]'h).toNat : Int) = bt t243 0 := bt_at t243 0; clear p49; have qi49 : (0 < (t243.size : Int)) = True := eq_true (of_decide_eq_true (by first | (with_reducible assumption) | assumption)); replace q49 := eq_true q49; have p51 : 0 ≤ (0 : Int) := (by omega); have q51 : 0 < t243.size := (by have : (0 : Int) < (t243.size : Int) := of_decide_eq_true (by first | (with_reducible assumption) | assumption); omega); have hx51 : ∀ h : 0 < t243.size, ((t243[0]'h).toNat : Int) = bt t243 0 := bt_at t243 0; clear p51; have qi51 : (0 < (t243.size : Int)) = True := eq_true (of_decide_eq_true (by first | (with_reducible assumption) | assumption)); replace q51 := eq_true q51)))
                            go_ret
                            exact ⟨by first | rfl | (simp [errW_none, errW_some] <;> rfl) | (simp [*, errW_none, errW_some] <;> rfl), by repeat (first | (with_reducible first | exact HB.out | apply below_alloc | apply pw_below_drewN | apply below_drew1 | refine below_set ?_ GE242.out) | exact HB.out)⟩
                          · rw [if_neg c50] at H
                            have c50b0 : ((wrap64 (Int.tdiv (wrap64 (bt t243 0)) 64)) == a0_0) = false := beq_eq_false_iff_ne.mpr c50
                            have c50b1 : ((wrap64 (Int.tdiv (wrap64 (bt t243 0)) 64)) != a0_0) = true := bne_iff_ne.mpr c50
                            obtain rfl := Option.some.inj H
                            have hcz55_0 : wc.cell? ⟨gb242, 0, none⟩ = some (.int .i64 a0_0) := (blk_cell BK242.out 0).trans rfl
                            have hcz55_1 : wc.cell? ⟨gb242, 1, none⟩ = some (.int .i64 a0_1) := (blk_cell BK242.out 1).trans rfl
                            have hcz55_2 : wc.cell? ⟨gb242, 2, none⟩ = some (.bool a0_2) := (blk_cell BK242.out 2).trans rfl
                            have hcz55_3 : wc.cell? ⟨gb242, 3, none⟩ = some (.int .i64 a0_3) := (blk_cell BK242.out 3).trans rfl
                            have hfz55_0 := blk_frozen BK242.out 0
                            have hfz55_1 := blk_frozen BK242.out 1
                            have hfz55_2 := blk_frozen BK242.out 2
                            have hfz55_3 := blk_frozen BK242.out 3
                            go_wp2_with (first | (go_at_call 9; (with_reducible refine (ident_Put.calls kj2 0 a0_1 false 0 t247 t248 _ A18.out).mono ?_); rintro e w56 ⟨rfl, hb⟩; have n0_ := Aside0.mk (blk_below (g := gb242) (o := .cells #[.int .i64 a0_0, .int .i64 a0_1, .bool a0_2, .int .i64 a0_3] 23 (0, 0)) (by (with_reducible repeat (first | refine blk_drewN ?_ _ | refine blk_drew ?_ | refine blk_alloc ?_ _)); exact BK242.out) hb); have n1_ := Aside0.mk (below_step (by repeat (first | (with_reducible first | exact HB.out | apply below_alloc | apply pw_below_drewN | apply below_drew1 | refine below_set ?_ GE242.out) | exact HB.out)) hb); clear BK242; clear HB; have BK242 := n0_; have HB := n1_; clear n0_ n1_; (try clear hb); (try clear hb2); (try clear hk); (try clear hi); have hcz57_0 : w56.cell? ⟨gb242, 0, none⟩ = some (.int .i64 a0_0) := (blk_cell BK242.out 0).trans rfl; have hcz57_1 : w56.cell? ⟨gb242, 1, none⟩ = some (.int .i64 a0_1) := (blk_cell BK242.out 1).trans rfl; have hcz57_2 : w56.cell? ⟨gb242, 2, none⟩ = some (.bool a0_2) := (blk_cell BK242.out 2).trans rfl; have hcz57_3 : w56.cell? ⟨gb242, 3, none⟩ = some (.int .i64 a0_3) := (blk_cell BK242.out 3).trans rfl; have hfz57_0 := blk_frozen BK242.out 0; have hfz57_1 := blk_frozen BK242.out 1; have hfz57_2 := blk_frozen BK242.out 2; have hfz57_3 := blk_frozen BK242.out 3; have p45 : 0 ≤ (0 : Int) := (by omega); have q45 : 0 < t243.size := (by have : (0 : Int) < (t243.size : Int) := of_decide_eq_true (by first | (with_reducible assumption) | assumption); omega); have hx45 : ∀ h : 0 < t243.size, ((t243[0]'h).toNat : Int) = bt t243 0 := bt_at t243 0; clear p45; have qi45 : (0 < (t243.size : Int)) = True := eq_true (of_decide_eq_true (by first | (with_reducible assumption) | assumption)); replace q45 := eq_true q45; have p47 : 0 ≤ (0 : Int) := (by omega); have q47 : 0 < t247.size := (by have : (0 : Int) < (t247.size : Int) := of_decide_eq_true (by first | (with_reducible assumption) | assumption); omega); have hx47 : ∀ h : 0 < t247.size, ((t247[0]'h).toNat : Int) = bt t247 0 := bt_at t247 0; clear p47; have qi47 : (0 < (t247.size : Int)) = True := eq_true (of_decide_eq_true (by first | (with_reducible assumption) | assumption)); replace q47 := eq_true q47; have p49 : 0 ≤ (0 : Int) := (by omega); have q49 : 0 < t243.size := (by have : (0 : Int) < (t243.size : Int) := of_decide_eq_true (by first | (with_reducible assumption) | assumption); omega); have hx49 : ∀ h : 0 < t243.size, ((t243[0]'h).toNat : Int) = bt t243 0 := bt_at t243 0; clear p49; have qi49 : (0 < (t243.size : Int)) = True := eq_true (of_decide_eq_true (by first | (with_reducible assumption) | assumption)); replace q49 := eq_true q49))
                            repeat (go_quiet (first | (go_at_call 9; (with_reducible refine (ident_Put.calls kj2 0 a0_1 false 0 t247 t248 _ A18.out).mono ?_); rintro e w56 ⟨rfl, hb⟩; have n0_ := Aside0.mk (blk_below (g := gb242) (o := .cells #[.int .i64 a0_0, .int .i64 a0_1, .bool a0_2, .int .i64 a0_3] 23 (0, 0)) (by (with_reducible repeat (first | refine blk_drewN ?_ _ | refine blk_drew ?_ | refine blk_alloc ?_ _)); exact BK242.out) hb); have n1_ := Aside0.mk (below_step (by repeat (first | (with_reducible first | exact HB.out | apply below_alloc | apply pw_below_drewN | apply below_drew1 | refine below_set ?_ GE242.out) | exact HB.out)) hb); clear BK242; clear HB; have BK242 := n0_; have HB := n1_; clear n0_ n1_; (try clear hb); (try clear hb2); (try clear hk); (try clear hi); have hcz57_0 : w56.cell? ⟨gb242, 0, none⟩ = some (.int .i64 a0_0) := (blk_cell BK242.out 0).trans rfl; have hcz57_1 : w56.cell? ⟨gb242, 1, none⟩ = some (.int .i64 a0_1) := (blk_cell BK242.out 1).trans rfl; have hcz57_2 : w56.cell? ⟨gb242, 2, none⟩ = some (.bool a0_2) := (blk_cell BK242.out 2).trans rfl; have hcz57_3 : w56.cell? ⟨gb242, 3, none⟩ = some (.int .i64 a0_3) := (blk_cell BK242.out 3).trans rfl; have hfz57_0 := blk_frozen BK242.out 0; have hfz57_1 := blk_frozen BK242.out 1; have hfz57_2 := blk_frozen BK242.out 2; have hfz57_3 := blk_frozen BK242.out 3; have p45 : 0 ≤ (0 : Int) := (by omega); have q45 : 0 < t243.size := (by have : (0 : Int) < (t243.size : Int) := of_decide_eq_true (by first | (with_reducible assumption) | assumption); omega); have hx45 : ∀ h : 0 < t243.size, ((t243[0]'h).toNat : Int) = bt t243 0 := bt_at t243 0; clear p45; have qi45 : (0 < (t243.size : Int)) = True := eq_true (of_decide_eq_true (by first | (with_reducible assumption) | assumption)); replace q45 := eq_true q45; have p47 : 0 ≤ (0 : Int) := (by omega); have q47 : 0 < t247.size := (by have : (0 : Int) < (t247.size : Int) := of_decide_eq_true (by first | (with_reducible assumption) | assumption); omega); have hx47 : ∀ h : 0 < t247.size, ((t247[0]'h).toNat : Int) = bt t247 0 := bt_at t247 0; clear p47; have qi47 : (0 < (t247.size : Int)) = True := eq_true (of_decide_eq_true (by first | (with_reducible assumption) | assumption)); replace q47 := eq_true q47; have p49 : 0 ≤ (0 : Int) := (by omega); have q49 : 0 < t243.size := (by have : (0 : Int) < (t243.size : Int) := of_decide_eq_true (by first | (with_reducible assumption) | assumption); omega); have hx49 : ∀ h : 0 < t243.size, ((t243[0]'h).toNat : Int) = bt t243 0 := bt_at t243 0; clear p49; have qi49 : (0 < (t243.size : Int)) = True := eq_true (of_decide_eq_true (by first | (with_reducible assumption) | assumption)); replace q49 := eq_true q49)); try go_wp2_with (first | (go_at_call 9; (with_reducible refine (ident_Put.calls kj2 0 a0_1 false 0 t247 t248 _ A18.out).mono ?_); rintro e w56 ⟨rfl, hb⟩; have n0_ := Aside0.mk (blk_below (g := gb242) (o := .cells #[.int .i64 a0_0, .int .i64 a0_1, .bool a0_2, .int .i64 a0_3] 23 (0, 0)) (by (with_reducible repeat (first | refine blk_drewN ?_ _ | refine blk_drew ?_ | refine blk_alloc ?_ _)); exact BK242.out) hb); have n1_ := Aside0.mk (below_step (by repeat (first | (with_reducible first | exact HB.out | apply below_alloc | apply pw_below_drewN | apply below_drew1 | refine below_set ?_ GE242.out) | exact HB.out)) hb); clear BK242; clear HB; have BK242 := n0_; have HB := n1_; clear n0_ n1_; (try clear hb); (try clear hb2); (try clear hk); (try clear hi); have hcz57_0 : w56.cell? ⟨gb242, 0, none⟩ = some (.int .i64 a0_0) := (blk_cell BK242.out 0).trans rfl; have hcz57_1 : w56.cell? ⟨gb242, 1, none⟩ = some (.int .i64 a0_1) := (blk_cell BK242.out 1).trans rfl; have hcz57_2 : w56.cell? ⟨gb242, 2, none⟩ = some (.bool a0_2) := (blk_cell BK242.out 2).trans rfl; have hcz57_3 : w56.cell? ⟨gb242, 3, none⟩ = some (.int .i64 a0_3) := (blk_cell BK242.out 3).trans rfl; have hfz57_0 := blk_frozen BK242.out 0; have hfz57_1 := blk_frozen BK242.out 1; have hfz57_2 := blk_frozen BK242.out 2; have hfz57_3 := blk_frozen BK242.out 3; have p45 : 0 ≤ (0 : Int) := (by omega); have q45 : 0 < t243.size := (by have : (0 : Int) < (t243.size : Int) := of_decide_eq_true (by first | (with_reducible assumption) | assumption); omega); have hx45 : ∀ h : 0 < t243.size, ((t243[0]'h).toNat : Int) = bt t243 0 := bt_at t243 0; clear p45; have qi45 : (0 < (t243.size : Int)) = True := eq_true (of_decide_eq_true (by first | (with_reducible assumption) | assumption)); replace q45 := eq_true q45; have p47 : 0 ≤ (0 : Int) := (by omega); have q47 : 0 < t247.size := (by have : (0 : Int) < (t247.size : Int) := of_decide_eq_true (by first | (with_reducible assumption) | assumption); omega); have hx47 : ∀ h : 0 < t247.size, ((t247[0]'h).toNat : Int) = bt t247 0 := bt_at t247 0; clear p47; have qi47 : (0 < (t247.size : Int)) = True := eq_true (of_decide_eq_true (by first | (with_reducible assumption) | assumption)); replace q47 := eq_true q47; have p49 : 0 ≤ (0 : Int) := (by omega); have q49 : 0 < t243.size := (by have : (0 : Int) < (t243.size : Int) := of_decide_eq_true (by first | (with_reducible assumption) | assumption); omega); have hx49 : ∀ h : 0 < t243.size, ((t243[0]'h).toNat : Int) = bt t243 0 := bt_at t243 0; clear p49; have qi49 : (0 < (t243.size : Int)) = True := eq_true (of_decide_eq_true (by first | (with_reducible assumption) | assumption)); replace q49 := eq_true q49)))
                            go_ret
                            exact ⟨by first | rfl | (simp [errW_none, errW_some] <;> rfl) | (simp [*, errW_none, errW_some] <;> rfl), by repeat (first | (with_reducible first | exact HB.out | apply below_alloc | apply pw_below_drewN | apply below_drew1 | refine below_set ?_ GE242.out) | exact HB.out)⟩
                        · rw [if_neg c48] at H
                          have c48b0 : ((Int.tmod (wrap64 (bt t243 0)) 32) == (Int.tmod (wrap64 (bt t247 0)) 32)) = false := beq_eq_false_iff_ne.mpr c48
                          have c48b1 : ((Int.tmod (wrap64 (bt t243 0)) 32) != (Int.tmod (wrap64 (bt t247 0)) 32)) = true := bne_iff_ne.mpr c48
                          obtain rfl := Option.some.inj H
                          have hcz58_0 : wc.cell? ⟨gb242, 0, none⟩ = some (.int .i64 a0_0) := (blk_cell BK242.out 0).trans rfl
                          have hcz58_1 : wc.cell? ⟨gb242, 1, none⟩ = some (.int .i64 a0_1) := (blk_cell BK242.out 1).trans rfl
                          have hcz58_2 : wc.cell? ⟨gb242, 2, none⟩ = some (.bool a0_2) := (blk_cell BK242.out 2).trans rfl
                          have hcz58_3 : wc.cell? ⟨gb242, 3, none⟩ = some (.int .i64 a0_3) := (blk_cell BK242.out 3).trans rfl
                          have hfz58_0 := blk_frozen BK242.out 0
                          have hfz58_1 := blk_frozen BK242.out 1
                          have hfz58_2 := blk_frozen BK242.out 2
                          have hfz58_3 := blk_frozen BK242.out 3
                          go_wp2_with (first | (go_at_call 9; (with_reducible refine (ident_Put.calls kj2 0 a0_1 false 0 t247 t248 _ A18.out).mono ?_); rintro e w59 ⟨rfl, hb⟩; have n0_ := Aside0.mk (blk_below (g := gb242) (o := .cells #[.int .i64 a0_0, .int .i64 a0_1, .bool a0_2, .int .i64 a0_3] 23 (0, 0)) (by (with_reducible repeat (first | refine blk_drewN ?_ _ | refine blk_drew ?_ | refine blk_alloc ?_ _)); exact BK242.out) hb); have n1_ := Aside0.mk (below_step (by repeat (first | (with_reducible first | exact HB.out | apply below_alloc | apply pw_below_drewN | apply below_drew1 | refine below_set ?_ GE242.out) | exact HB.out)) hb); clear BK242; clear HB; have BK242 := n0_; have HB := n1_; clear n0_ n1_; (try clear hb); (try clear hb2); (try clear hk); (try clear hi); have hcz60_0 : w59.cell? ⟨gb242, 0, none⟩ = some (.int .i64 a0_0) := (blk_cell BK242.out 0).trans rfl; have hcz60_1 : w59.cell? ⟨gb242, 1, none⟩ = some (.int .i64 a0_1) := (blk_cell BK242.out 1).trans rfl; have hcz60_2 : w59.cell? ⟨gb242, 2, none⟩ = some (.bool a0_2) := (blk_cell BK242.out 2).trans rfl; have hcz60_3 : w59.cell? ⟨gb242, 3, none⟩ = some (.int .i64 a0_3) := (blk_cell BK242.out 3).trans rfl; have hfz60_0 := blk_frozen BK242.out 0; have hfz60_1 := blk_frozen BK242.out 1; have hfz60_2 := blk_frozen BK242.out 2; have hfz60_3 := blk_frozen BK242.out 3; have p45 : 0 ≤ (0 : Int) := (by omega); have q45 : 0 < t243.size := (by have : (0 : Int) < (t243.size : Int) := of_decide_eq_true (by first | (with_reducible assumption) | assumption); omega); have hx45 : ∀ h : 0 < t243.size, ((t243[0]'h).toNat : Int) = bt t243 0 := bt_at t243 0; clear p45; have qi45 : (0 < (t243.size : Int)) = True := eq_true (of_decide_eq_true (by first | (with_reducible assumption) | assumption)); replace q45 := eq_true q45; have p47 : 0 ≤ (0 : Int) := (by omega); have q47 : 0 < t247.size := (by have : (0 : Int) < (t247.size : Int) := of_decide_eq_true (by first | (with_reducible assumption) | assumption); omega); have hx47 : ∀ h : 0 < t247.size, ((t247[0]'h).toNat : Int) = bt t247 0 := bt_at t247 0; clear p47; have qi47 : (0 < (t247.size : Int)) = True := eq_true (of_decide_eq_true (by first | (with_reducible assumption) | assumption)); replace q47 := eq_true q47))
                          repeat (go_quiet (first | (go_at_call 9; (with_reducible refine (ident_Put.calls kj2 0 a0_1 false 0 t247 t248 _ A18.out).mono ?_); rintro e w59 ⟨rfl, hb⟩; have n0_ := Aside0.mk (blk_below (g := gb242) (o := .cells #[.int .i64 a0_0, .int .i64 a0_1, .bool a0_2, .int .i64 a0_3] 23 (0, 0)) (by (with_reducible repeat (first | refine blk_drewN ?_ _ | refine blk_drew ?_ | refine blk_alloc ?_ _)); exact BK242.out) hb); have n1_ := Aside0.mk (below_step (by repeat (first | (with_reducible first | exact HB.out | apply below_alloc | apply pw_below_drewN | apply below_drew1 | refine below_set ?_ GE242.out) | exact HB.out)) hb); clear BK242; clear HB; have BK242 := n0_; have HB := n1_; clear n0_ n1_; (try clear hb); (try clear hb2); (try clear hk); (try clear hi); have hcz60_0 : w59.cell? ⟨gb242, 0, none⟩ = some (.int .i64 a0_0) := (blk_cell BK242.out 0).trans rfl; have hcz60_1 : w59.cell? ⟨gb242, 1, none⟩ = some (.int .i64 a0_1) := (blk_cell BK242.out 1).trans rfl; have hcz60_2 : w59.cell? ⟨gb242, 2, none⟩ = some (.bool a0_2) := (blk_cell BK242.out 2).trans rfl; have hcz60_3 : w59.cell? ⟨gb242, 3, none⟩ = some (.int .i64 a0_3) := (blk_cell BK242.out 3).trans rfl; have hfz60_0 := blk_frozen BK242.out 0; have hfz60_1 := blk_frozen BK242.out 1; have hfz60_2 := blk_frozen BK242.out 2; have hfz60_3 := blk_frozen BK242.out 3; have p45 : 0 ≤ (0 : Int) := (by omega); have q45 : 0 < t243.size := (by have : (0 : Int) < (t243.size : Int) := of_decide_eq_true (by first | (with_reducible assumption) | assumption); omega); have hx45 : ∀ h : 0 < t243.size, ((t243[0]'h).toNat : Int) = bt t243 0 := bt_at t243 0; clear p45; have qi45 : (0 < (t243.size : Int)) = True := eq_true (of_decide_eq_true (by first | (with_reducible assumption) | assumption)); replace q45 := eq_true q45; have p47 : 0 ≤ (0 : Int) := (by omega); have q47 : 0 < t247.size := (by have : (0 : Int) < (t247.size : Int) := of_decide_eq_true (by first | (with_reducible assumption) | assumption); omega); have hx47 : ∀ h : 0 < t247.size, ((t247[0]'h).toNat : Int) = bt t247 0 := bt_at t247 0; clear p47; have qi47 : (0 < (t247.size : Int)) = True := eq_true (of_decide_eq_true (by first | (with_reducible assumption) | assumption)); replace q47 := eq_true q47)); try go_wp2_with (first | (go_at_call 9; (with_reducible refine (ident_Put.calls kj2 0 a0_1 false 0 t247 t248 _ A18.out).mono ?_); rintro e w59 ⟨rfl, hb⟩; have n0_ := Aside0.mk (blk_below (g := gb242) (o := .cells #[.int .i64 a0_0, .int .i64 a0_1, .bool a0_2, .int .i64 a0_3] 23 (0, 0)) (by (with_reducible repeat (first | refine blk_drewN ?_ _ | refine blk_drew ?_ | refine blk_alloc ?_ _)); exact BK242.out) hb); have n1_ := Aside0.mk (below_step (by repeat (first | (with_reducible first | exact HB.out | apply below_alloc | apply pw_below_drewN | apply below_drew1 | refine below_set ?_ GE242.out) | exact HB.out)) hb); clear BK242; clear HB; have BK242 := n0_; have HB := n1_; clear n0_ n1_; (try clear hb); (try clear hb2); (try clear hk); (try clear hi); have hcz60_0 : w59.cell? ⟨gb242, 0, none⟩ = some (.int .i64 a0_0) := (blk_cell BK242.out 0).trans rfl; have hcz60_1 : w59.cell? ⟨gb242, 1, none⟩ = some (.int .i64 a0_1) := (blk_cell BK242.out 1).trans rfl; have hcz60_2 : w59.cell? ⟨gb242, 2, none⟩ = some (.bool a0_2) := (blk_cell BK242.out 2).trans rfl; have hcz60_3 : w59.cell? ⟨gb242, 3, none⟩ = some (.int .i64 a0_3) := (blk_cell BK242.out 3).trans rfl; have hfz60_0 := blk_frozen BK242.out 0; have hfz60_1 := blk_frozen BK242.out 1; have hfz60_2 := blk_frozen BK242.out 2; have hfz60_3 := blk_frozen BK242.out 3; have p45 : 0 ≤ (0 : Int) := (by omega); have q45 : 0 < t243.size := (by have : (0 : Int) < (t243.size : Int) := of_decide_eq_true (by first | (with_reducible assumption) | assumption); omega); have hx45 : ∀ h : 0 < t243.size, ((t243[0]'h).toNat : Int) = bt t243 0 := bt_at t243 0; clear p45; have qi45 : (0 < (t243.size : Int)) = True := eq_true (of_decide_eq_true (by first | (with_reducible assumption) | assumption)); replace q45 := eq_true q45; have p47 : 0 ≤ (0 : Int) := (by omega); have q47 : 0 < t247.size := (by have : (0 : Int) < (t247.size : Int) := of_decide_eq_true (by first | (with_reducible assumption) | assumption); omega); have hx47 : ∀ h : 0 < t247.size, ((t247[0]'h).toNat : Int) = bt t247 0 := bt_at t247 0; clear p47; have qi47 : (0 < (t247.size : Int)) = True := eq_true (of_decide_eq_true (by first | (with_reducible assumption) | assumption)); replace q47 := eq_true q47)))
                          go_ret
                          exact ⟨by first | rfl | (simp [errW_none, errW_some] <;> rfl) | (simp [*, errW_none, errW_some] <;> rfl), by repeat (first | (with_reducible first | exact HB.out | apply below_alloc | apply pw_below_drewN | apply below_drew1 | refine below_set ?_ GE242.out) | exact HB.out)⟩
                      · rw [if_neg c46] at H
                        exact absurd H (by simp)
                    · rw [if_neg c44] at H
                      exact absurd H (by simp)
                  · rw [if_neg c43] at H
                    have c43b0 : ((t243.extract 1 t243.size).toList == (t247.extract 1 t247.size).toList) = false := beq_eq_false_iff_ne.mpr c43
                    have c43b1 : ((t243.extract 1 t243.size).toList != (t247.extract 1 t247.size).toList) = true := bne_iff_ne.mpr c43
                    obtain rfl := Option.some.inj H
                    have hcz61_0 : wc.cell? ⟨gb242, 0, none⟩ = some (.int .i64 a0_0) := (blk_cell BK242.out 0).trans rfl
                    have hcz61_1 : wc.cell? ⟨gb242, 1, none⟩ = some (.int .i64 a0_1) := (blk_cell BK242.out 1).trans rfl
                    have hcz61_2 : wc.cell? ⟨gb242, 2, none⟩ = some (.bool a0_2) := (blk_cell BK242.out 2).trans rfl
                    have hcz61_3 : wc.cell? ⟨gb242, 3, none⟩ = some (.int .i64 a0_3) := (blk_cell BK242.out 3).trans rfl
                    have hfz61_0 := blk_frozen BK242.out 0
                    have hfz61_1 := blk_frozen BK242.out 1
                    have hfz61_2 := blk_frozen BK242.out 2
                    have hfz61_3 := blk_frozen BK242.out 3
                    go_wp2_with (first | (go_at_call 9; (with_reducible refine (ident_Put.calls kj2 0 a0_1 false 0 t247 t248 _ A18.out).mono ?_); rintro e w62 ⟨rfl, hb⟩; have n0_ := Aside0.mk (blk_below (g := gb242) (o := .cells #[.int .i64 a0_0, .int .i64 a0_1, .bool a0_2, .int .i64 a0_3] 23 (0, 0)) (by (with_reducible repeat (first | refine blk_drewN ?_ _ | refine blk_drew ?_ | refine blk_alloc ?_ _)); exact BK242.out) hb); have n1_ := Aside0.mk (below_step (by repeat (first | (with_reducible first | exact HB.out | apply below_alloc | apply pw_below_drewN | apply below_drew1 | refine below_set ?_ GE242.out) | exact HB.out)) hb); clear BK242; clear HB; have BK242 := n0_; have HB := n1_; clear n0_ n1_; (try clear hb); (try clear hb2); (try clear hk); (try clear hi); have hcz63_0 : w62.cell? ⟨gb242, 0, none⟩ = some (.int .i64 a0_0) := (blk_cell BK242.out 0).trans rfl; have hcz63_1 : w62.cell? ⟨gb242, 1, none⟩ = some (.int .i64 a0_1) := (blk_cell BK242.out 1).trans rfl; have hcz63_2 : w62.cell? ⟨gb242, 2, none⟩ = some (.bool a0_2) := (blk_cell BK242.out 2).trans rfl; have hcz63_3 : w62.cell? ⟨gb242, 3, none⟩ = some (.int .i64 a0_3) := (blk_cell BK242.out 3).trans rfl; have hfz63_0 := blk_frozen BK242.out 0; have hfz63_1 := blk_frozen BK242.out 1; have hfz63_2 := blk_frozen BK242.out 2; have hfz63_3 := blk_frozen BK242.out 3))
                    repeat (go_quiet (first | (go_at_call 9; (with_reducible refine (ident_Put.calls kj2 0 a0_1 false 0 t247 t248 _ A18.out).mono ?_); rintro e w62 ⟨rfl, hb⟩; have n0_ := Aside0.mk (blk_below (g := gb242) (o := .cells #[.int .i64 a0_0, .int .i64 a0_1, .bool a0_2, .int .i64 a0_3] 23 (0, 0)) (by (with_reducible repeat (first | refine blk_drewN ?_ _ | refine blk_drew ?_ | refine blk_alloc ?_ _)); exact BK242.out) hb); have n1_ := Aside0.mk (below_step (by repeat (first | (with_reducible first | exact HB.out | apply below_alloc | apply pw_below_drewN | apply below_drew1 | refine below_set ?_ GE242.out) | exact HB.out)) hb); clear BK242; clear HB; have BK242 := n0_; have HB := n1_; clear n0_ n1_; (try clear hb); (try clear hb2); (try clear hk); (try clear hi); have hcz63_0 : w62.cell? ⟨gb242, 0, none⟩ = some (.int .i64 a0_0) := (blk_cell BK242.out 0).trans rfl; have hcz63_1 : w62.cell? ⟨gb242, 1, none⟩ = some (.int .i64 a0_1) := (blk_cell BK242.out 1).trans rfl; have hcz63_2 : w62.cell? ⟨gb242, 2, none⟩ = some (.bool a0_2) := (blk_cell BK242.out 2).trans rfl; have hcz63_3 : w62.cell? ⟨gb242, 3, none⟩ = some (.int .i64 a0_3) := (blk_cell BK242.out 3).trans rfl; have hfz63_0 := blk_frozen BK242.out 0; have hfz63_1 := blk_frozen BK242.out 1; have hfz63_2 := blk_frozen BK242.out 2; have hfz63_3 := blk_frozen BK242.out 3)); try go_wp2_with (first | (go_at_call 9; (with_reducible refine (ident_Put.calls kj2 0 a0_1 false 0 t247 t248 _ A18.out).mono ?_); rintro e w62 ⟨rfl, hb⟩; have n0_ := Aside0.mk (blk_below (g := gb242) (o := .cells #[.int .i64 a0_0, .int .i64 a0_1, .bool a0_2, .int .i64 a0_3] 23 (0, 0)) (by (with_reducible repeat (first | refine blk_drewN ?_ _ | refine blk_drew ?_ | refine blk_alloc ?_ _)); exact BK242.out) hb); have n1_ := Aside0.mk (below_step (by repeat (first | (with_reducible first | exact HB.out | apply below_alloc | apply pw_below_drewN | apply below_drew1 | refine below_set ?_ GE242.out) | exact HB.out)) hb); clear BK242; clear HB; have BK242 := n0_; have HB := n1_; clear n0_ n1_; (try clear hb); (try clear hb2); (try clear hk); (try clear hi); have hcz63_0 : w62.cell? ⟨gb242, 0, none⟩ = some (.int .i64 a0_0) := (blk_cell BK242.out 0).trans rfl; have hcz63_1 : w62.cell? ⟨gb242, 1, none⟩ = some (.int .i64 a0_1) := (blk_cell BK242.out 1).trans rfl; have hcz63_2 : w62.cell? ⟨gb242, 2, none⟩ = some (.bool a0_2) := (blk_cell BK242.out 2).trans rfl; have hcz63_3 : w62.cell? ⟨gb242, 3, none⟩ = some (.int .i64 a0_3) := (blk_cell BK242.out 3).trans rfl; have hfz63_0 := blk_frozen BK242.out 0; have hfz63_1 := blk_frozen BK242.out 1; have hfz63_2 := blk_frozen BK242.out 2; have hfz63_3 := blk_frozen BK242.out 3)))
                    go_ret
                    exact ⟨by first | rfl | (simp [errW_none, errW_some] <;> rfl) | (simp [*, errW_none, errW_some] <;> rfl), by repeat (first | (with_reducible first | exact HB.out | apply below_alloc | apply pw_below_drewN | apply below_drew1 | refine below_set ?_ GE242.out) | exact HB.out)⟩
                · rw [if_neg c42] at H
                  exact absurd H (by simp)
              · rw [if_neg c41] at H
                exact absurd H (by simp)
            · rw [if_neg c40] at H
              have c40b0 : ((t247.size : Int) == 1) = false := beq_eq_false_iff_ne.mpr c40
              have c40b1 : ((t247.size : Int) != 1) = true := bne_iff_ne.mpr c40
              obtain rfl := Option.some.inj H
              have hcz64_0 : wc.cell? ⟨gb242, 0, none⟩ = some (.int .i64 a0_0) := (blk_cell BK242.out 0).trans rfl
              have hcz64_1 : wc.cell? ⟨gb242, 1, none⟩ = some (.int .i64 a0_1) := (blk_cell BK242.out 1).trans rfl
              have hcz64_2 : wc.cell? ⟨gb242, 2, none⟩ = some (.bool a0_2) := (blk_cell BK242.out 2).trans rfl
              have hcz64_3 : wc.cell? ⟨gb242, 3, none⟩ = some (.int .i64 a0_3) := (blk_cell BK242.out 3).trans rfl
              have hfz64_0 := blk_frozen BK242.out 0
              have hfz64_1 := blk_frozen BK242.out 1
              have hfz64_2 := blk_frozen BK242.out 2
              have hfz64_3 := blk_frozen BK242.out 3
              go_wp2_with (first | (go_at_call 9; (with_reducible refine (ident_Put.calls kj2 0 a0_1 false 0 t247 t248 _ A18.out).mono ?_); rintro e w65 ⟨rfl, hb⟩; have n0_ := Aside0.mk (blk_below (g := gb242) (o := .cells #[.int .i64 a0_0, .int .i64 a0_1, .bool a0_2, .int .i64 a0_3] 23 (0, 0)) (by (with_reducible repeat (first | refine blk_drewN ?_ _ | refine blk_drew ?_ | refine blk_alloc ?_ _)); exact BK242.out) hb); have n1_ := Aside0.mk (below_step (by repeat (first | (with_reducible first | exact HB.out | apply below_alloc | apply pw_below_drewN | apply below_drew1 | refine below_set ?_ GE242.out) | exact HB.out)) hb); clear BK242; clear HB; have BK242 := n0_; have HB := n1_; clear n0_ n1_; (try clear hb); (try clear hb2); (try clear hk); (try clear hi); have hcz66_0 : w65.cell? ⟨gb242, 0, none⟩ = some (.int .i64 a0_0) := (blk_cell BK242.out 0).trans rfl; have hcz66_1 : w65.cell? ⟨gb242, 1, none⟩ = some (.int .i64 a0_1) := (blk_cell BK242.out 1).trans rfl; have hcz66_2 : w65.cell? ⟨gb242, 2, none⟩ = some (.bool a0_2) := (blk_cell BK242.out 2).trans rfl; have hcz66_3 : w65.cell? ⟨gb242, 3, none⟩ = some (.int .i64 a0_3) := (blk_cell BK242.out 3).trans rfl; have hfz66_0 := blk_frozen BK242.out 0; have hfz66_1 := blk_frozen BK242.out 1; have hfz66_2 := blk_frozen BK242.out 2; have hfz66_3 := blk_frozen BK242.out 3))
              repeat (go_quiet (first | (go_at_call 9; (with_reducible refine (ident_Put.calls kj2 0 a0_1 false 0 t247 t248 _ A18.out).mono ?_); rintro e w65 ⟨rfl, hb⟩; have n0_ := Aside0.mk (blk_below (g := gb242) (o := .cells #[.int .i64 a0_0, .int .i64 a0_1, .bool a0_2, .int .i64 a0_3] 23 (0, 0)) (by (with_reducible repeat (first | refine blk_drewN ?_ _ | refine blk_drew ?_ | refine blk_alloc ?_ _)); exact BK242.out) hb); have n1_ := Aside0.mk (below_step (by repeat (first | (with_reducible first | exact HB.out | apply below_alloc | apply pw_below_drewN | apply below_drew1 | refine below_set ?_ GE242.out) | exact HB.out)) hb); clear BK242; clear HB; have BK242 := n0_; have HB := n1_; clear n0_ n1_; (try clear hb); (try clear hb2); (try clear hk); (try clear hi); have hcz66_0 : w65.cell? ⟨gb242, 0, none⟩ = some (.int .i64 a0_0) := (blk_cell BK242.out 0).trans rfl; have hcz66_1 : w65.cell? ⟨gb242, 1, none⟩ = some (.int .i64 a0_1) := (blk_cell BK242.out 1).trans rfl; have hcz66_2 : w65.cell? ⟨gb242, 2, none⟩ = some (.bool a0_2) := (blk_cell BK242.out 2).trans rfl; have hcz66_3 : w65.cell? ⟨gb242, 3, none⟩ = some (.int .i64 a0_3) := (blk_cell BK242.out 3).trans rfl; have hfz66_0 := blk_frozen BK242.out 0; have hfz66_1 := blk_frozen BK242.out 1; have hfz66_2 := blk_frozen BK242.out 2; have hfz66_3 := blk_frozen BK242.out 3)); try go_wp2_with (first | (go_at_call 9; (with_reducible refine (ident_Put.calls kj2 0 a0_1 false 0 t247 t248 _ A18.out).mono ?_); rintro e w65 ⟨rfl, hb⟩; have n0_ := Aside0.mk (blk_below (g := gb242) (o := .cells #[.int .i64 a0_0, .int .i64 a0_1, .bool a0_2, .int .i64 a0_3] 23 (0, 0)) (by (with_reducible repeat (first | refine blk_drewN ?_ _ | refine blk_drew ?_ | refine blk_alloc ?_ _)); exact BK242.out) hb); have n1_ := Aside0.mk (below_step (by repeat (first | (with_reducible first | exact HB.out | apply below_alloc | apply pw_below_drewN | apply below_drew1 | refine below_set ?_ GE242.out) | exact HB.out)) hb); clear BK242; clear HB; have BK242 := n0_; have HB := n1_; clear n0_ n1_; (try clear hb); (try clear hb2); (try clear hk); (try clear hi); have hcz66_0 : w65.cell? ⟨gb242, 0, none⟩ = some (.int .i64 a0_0) := (blk_cell BK242.out 0).trans rfl; have hcz66_1 : w65.cell? ⟨gb242, 1, none⟩ = some (.int .i64 a0_1) := (blk_cell BK242.out 1).trans rfl; have hcz66_2 : w65.cell? ⟨gb242, 2, none⟩ = some (.bool a0_2) := (blk_cell BK242.out 2).trans rfl; have hcz66_3 : w65.cell? ⟨gb242, 3, none⟩ = some (.int .i64 a0_3) := (blk_cell BK242.out 3).trans rfl; have hfz66_0 := blk_frozen BK242.out 0; have hfz66_1 := blk_frozen BK242.out 1; have hfz66_2 := blk_frozen BK242.out 2; have hfz66_3 := blk_frozen BK242.out 3)))
              go_ret
              exact ⟨by first | rfl | (simp [errW_none, errW_some] <;> rfl) | (simp [*, errW_none, errW_some] <;> rfl), by repeat (first | (with_reducible first | exact HB.out | apply below_alloc | apply pw_below_drewN | apply below_drew1 | refine below_set ?_ GE242.out) | exact HB.out)⟩
          · rw [if_neg c39] at H
            have c39b0 : ((t243.size : Int) == 1) = false := beq_eq_false_iff_ne.mpr c39
            have c39b1 : ((t243.size : Int) != 1) = true := bne_iff_ne.mpr c39
            obtain rfl := Option.some.inj H
            have hcz67_0 : wc.cell? ⟨gb242, 0, none⟩ = some (.int .i64 a0_0) := (blk_cell BK242.out 0).trans rfl
            have hcz67_1 : wc.cell? ⟨gb242, 1, none⟩ = some (.int .i64 a0_1) := (blk_cell BK242.out 1).trans rfl
            have hcz67_2 : wc.cell? ⟨gb242, 2, none⟩ = some (.bool a0_2) := (blk_cell BK242.out 2).trans rfl
            have hcz67_3 : wc.cell? ⟨gb242, 3, none⟩ = some (.int .i64 a0_3) := (blk_cell BK242.out 3).trans rfl
            have hfz67_0 := blk_frozen BK242.out 0
            have hfz67_1 := blk_frozen BK242.out 1
            have hfz67_2 := blk_frozen BK242.out 2
            have hfz67_3 := blk_frozen BK242.out 3
            go_wp2_with (first | (go_at_call 9; (with_reducible refine (ident_Put.calls kj2 0 a0_1 false 0 t247 t248 _ A18.out).mono ?_); rintro e w68 ⟨rfl, hb⟩; have n0_ := Aside0.mk (blk_below (g := gb242) (o := .cells #[.int .i64 a0_0, .int .i64 a0_1, .bool a0_2, .int .i64 a0_3] 23 (0, 0)) (by (with_reducible repeat (first | refine blk_drewN ?_ _ | refine blk_drew ?_ | refine blk_alloc ?_ _)); exact BK242.out) hb); have n1_ := Aside0.mk (below_step (by repeat (first | (with_reducible first | exact HB.out | apply below_alloc | apply pw_below_drewN | apply below_drew1 | refine below_set ?_ GE242.out) | exact HB.out)) hb); clear BK242; clear HB; have BK242 := n0_; have HB := n1_; clear n0_ n1_; (try clear hb); (try clear hb2); (try clear hk); (try clear hi); have hcz69_0 : w68.cell? ⟨gb242, 0, none⟩ = some (.int .i64 a0_0) := (blk_cell BK242.out 0).trans rfl; have hcz69_1 : w68.cell? ⟨gb242, 1, none⟩ = some (.int .i64 a0_1) := (blk_cell BK242.out 1).trans rfl; have hcz69_2 : w68.cell? ⟨gb242, 2, none⟩ = some (.bool a0_2) := (blk_cell BK242.out 2).trans rfl; have hcz69_3 : w68.cell? ⟨gb242, 3, none⟩ = some (.int .i64 a0_3) := (blk_cell BK242.out 3).trans rfl; have hfz69_0 := blk_frozen BK242.out 0; have hfz69_1 := blk_frozen BK242.out 1; have hfz69_2 := blk_frozen BK242.out 2; have hfz69_3 := blk_frozen BK242.out 3))
            repeat (go_quiet (first | (go_at_call 9; (with_reducible refine (ident_Put.calls kj2 0 a0_1 false 0 t247 t248 _ A18.out).mono ?_); rintro e w68 ⟨rfl, hb⟩; have n0_ := Aside0.mk (blk_below (g := gb242) (o := .cells #[.int .i64 a0_0, .int .i64 a0_1, .bool a0_2, .int .i64 a0_3] 23 (0, 0)) (by (with_reducible repeat (first | refine blk_drewN ?_ _ | refine blk_drew ?_ | refine blk_alloc ?_ _)); exact BK242.out) hb); have n1_ := Aside0.mk (below_step (by repeat (first | (with_reducible first | exact HB.out | apply below_alloc | apply pw_below_drewN | apply below_drew1 | refine below_set ?_ GE242.out) | exact HB.out)) hb); clear BK242; clear HB; have BK242 := n0_; have HB := n1_; clear n0_ n1_; (try clear hb); (try clear hb2); (try clear hk); (try clear hi); have hcz69_0 : w68.cell? ⟨gb242, 0, none⟩ = some (.int .i64 a0_0) := (blk_cell BK242.out 0).trans rfl; have hcz69_1 : w68.cell? ⟨gb242, 1, none⟩ = some (.int .i64 a0_1) := (blk_cell BK242.out 1).trans rfl; have hcz69_2 : w68.cell? ⟨gb242, 2, none⟩ = some (.bool a0_2) := (blk_cell BK242.out 2).trans rfl; have hcz69_3 : w68.cell? ⟨gb242, 3, none⟩ = some (.int .i64 a0_3) := (blk_cell BK242.out 3).trans rfl; have hfz69_0 := blk_frozen BK242.out 0; have hfz69_1 := blk_frozen BK242.out 1; have hfz69_2 := blk_frozen BK242.out 2; have hfz69_3 := blk_frozen BK242.out 3)); try go_wp2_with (first | (go_at_call 9; (with_reducible refine (ident_Put.calls kj2 0 a0_1 false 0 t247 t248 _ A18.out).mono ?_); rintro e w68 ⟨rfl, hb⟩; have n0_ := Aside0.mk (blk_below (g := gb242) (o := .cells #[.int .i64 a0_0, .int .i64 a0_1, .bool a0_2, .int .i64 a0_3] 23 (0, 0)) (by (with_reducible repeat (first | refine blk_drewN ?_ _ | refine blk_drew ?_ | refine blk_alloc ?_ _)); exact BK242.out) hb); have n1_ := Aside0.mk (below_step (by repeat (first | (with_reducible first | exact HB.out | apply below_alloc | apply pw_below_drewN | apply below_drew1 | refine below_set ?_ GE242.out) | exact HB.out)) hb); clear BK242; clear HB; have BK242 := n0_; have HB := n1_; clear n0_ n1_; (try clear hb); (try clear hb2); (try clear hk); (try clear hi); have hcz69_0 : w68.cell? ⟨gb242, 0, none⟩ = some (.int .i64 a0_0) := (blk_cell BK242.out 0).trans rfl; have hcz69_1 : w68.cell? ⟨gb242, 1, none⟩ = some (.int .i64 a0_1) := (blk_cell BK242.out 1).trans rfl; have hcz69_2 : w68.cell? ⟨gb242, 2, none⟩ = some (.bool a0_2) := (blk_cell BK242.out 2).trans rfl; have hcz69_3 : w68.cell? ⟨gb242, 3, none⟩ = some (.int .i64 a0_3) := (blk_cell BK242.out 3).trans rfl; have hfz69_0 := blk_frozen BK242.out 0; have hfz69_1 := blk_frozen BK242.out 1; have hfz69_2 := blk_frozen BK242.out 2; have hfz69_3 := blk_frozen BK242.out 3)))
            go_ret
            exact ⟨by first | rfl | (simp [errW_none, errW_some] <;> rfl) | (simp [*, errW_none, errW_some] <;> rfl), by repeat (first | (with_reducible first | exact HB.out | apply below_alloc | apply pw_below_drewN | apply below_drew1 | refine below_set ?_ GE242.out) | exact HB.out)⟩

end Go.Proofs.Ytiohngikhchgeaa.PA
