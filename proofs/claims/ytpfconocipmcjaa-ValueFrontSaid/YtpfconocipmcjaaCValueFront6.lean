/- What the row of ValueFront stands on, made small by a program of this session (pack.py). -/
import Derived.Test.YtpfconocipmcjaaCValueFront2
import Derived.Test.YtpfconocipmcjaaCValueFront4
namespace Go.Proofs.Ytpfconocipmcjaa.PC
open Go.RowKit Go.Proofs.YtpfconocipmcjaaW.PrintWords Go.Proofs.YtpfconocipmcjaaW.PrintLast Go.Proofs.YtpfconocipmcjaaW.PrintMore
attribute [local go_sem] max2_int min2_int max_two min_two max_three min_three max_four min_four
set_option linter.unusedVariables false
set_option linter.unusedSimpArgs false
def oid_Start.f (a0 : Int) : Option (Int × Bool × Bool) := if a0 < 1 then (some (0, false, false)) else (some (a0, false, true))
set_option maxHeartbeats 8000000 in
set_option maxRecDepth 100000 in
theorem oid_Start.calls (a0 : Int) (r1 : Int) (r2 : Bool) (r3 : Bool) (w : World) (h : oid_Start.f a0 = some (r1, r2, r3)) :
 Calls Try.prog 48 #[.int .i64 a0] w fun e w' => e = .returned (.tuple #[.agg #[.int .i64 r1, .bool r2], .bool r3]) ∧ Below w.heap.size w w' := by
 have hu86 := Try.underlying86
 have HB := Aside0.mk (Below.refl w.heap.size w)
 have H : (if a0 < 1 then (some (0, false, false)) else (some (a0, false, true))) = some (r1, r2, r3) := h
 clear h
 by_cases c2 : a0 < 1
 ·
  rw [if_pos c2] at H
  have c2b0 : decide (a0 < 1) = true := decide_eq_true c2
  clear c2
  simp only [Option.some.injEq, Prod.mk.injEq] at H
  obtain ⟨rfl, rfl, rfl⟩ := H
  go_enter Try.func48, Try.ntmps48
  go_wp2_with (first | ((with_reducible refine gate_dst (N := 2) rfl ?_); refine zzbx (N := 2) (cs := #[.int .i64 0, .bool false]) (t := 86) ?_; intro gb179 hg w3 hbox hb; have n0_ := Aside0.mk (below_step zz0 hb); have n1_ := Aside0.mk (hbox); have n2_ := Aside0.mk ((zz12 : w.heap.size ≤ gb179)); have n3_ := Aside0.mk ((zz12 : w.heap.size ≤ gb179)); clear HB; have HB := n0_; have BK179 := n1_; have GW179 := n2_; have GE179 := n3_; clear n0_ n1_ n2_ n3_; clear hb hbox hg; have hcz4_0 : w3.cell? ⟨gb179, 0, none⟩ = some (.int .i64 0) := (blk_cell BK179.out 0).trans rfl; have hcz4_1 : w3.cell? ⟨gb179, 1, none⟩ = some (.bool false) := (blk_cell BK179.out 1).trans rfl; have hfz4_0 := blk_frozen BK179.out 0; have hfz4_1 := blk_frozen BK179.out 1))
  refine bodyPost_ret (results_ct rfl _ _ gb179 86 #[.int .i64 0, .bool false] (0, 0) _ rfl (by (with_reducible repeat (first | refine blk_drewN ?_ _ | refine blk_drew ?_ | refine blk_alloc ?_ _)); refine blk_put (cs := #[.int .i64 0, .bool false]) ?_ 1 _ rfl; (with_reducible repeat (first | refine blk_drewN ?_ _ | refine blk_drew ?_ | refine blk_alloc ?_ _)); refine blk_put (cs := #[.int .i64 0, .bool false]) ?_ 0 _ rfl; (with_reducible repeat (first | refine blk_drewN ?_ _ | refine blk_drew ?_ | refine blk_alloc ?_ _)); exact BK179.out) Try.underlying86 rfl zz23) rfl ?_
  exact ⟨zz2, by repeat (first | (with_reducible first | exact HB.out | apply below_alloc | apply pw_below_drewN | apply below_drew1 | refine below_set ?_ GE179.out) | exact HB.out)⟩
 ·
  rw [if_neg c2] at H
  have c2b0 : decide (a0 < 1) = false := decide_eq_false c2
  clear c2
  simp only [Option.some.injEq, Prod.mk.injEq] at H
  obtain ⟨rfl, rfl, rfl⟩ := H
  go_enter Try.func48, Try.ntmps48
  go_wp2_with (first | ((with_reducible refine gate_dst (N := 2) rfl ?_); refine zzbx (N := 2) (cs := #[.int .i64 0, .bool false]) (t := 86) ?_; intro gb179 hg w5 hbox hb; have n0_ := Aside0.mk (below_step zz0 hb); have n1_ := Aside0.mk (hbox); have n2_ := Aside0.mk ((zz12 : w.heap.size ≤ gb179)); have n3_ := Aside0.mk ((zz12 : w.heap.size ≤ gb179)); clear HB; have HB := n0_; have BK179 := n1_; have GW179 := n2_; have GE179 := n3_; clear n0_ n1_ n2_ n3_; clear hb hbox hg; have hcz6_0 : w5.cell? ⟨gb179, 0, none⟩ = some (.int .i64 0) := (blk_cell BK179.out 0).trans rfl; have hcz6_1 : w5.cell? ⟨gb179, 1, none⟩ = some (.bool false) := (blk_cell BK179.out 1).trans rfl; have hfz6_0 := blk_frozen BK179.out 0; have hfz6_1 := blk_frozen BK179.out 1))
  refine bodyPost_ret (results_ct rfl _ _ gb179 86 #[.int .i64 a0, .bool false] (0, 0) _ rfl (by (with_reducible repeat (first | refine blk_drewN ?_ _ | refine blk_drew ?_ | refine blk_alloc ?_ _)); refine blk_put (cs := #[.int .i64 a0, .bool false]) ?_ 1 _ rfl; (with_reducible repeat (first | refine blk_drewN ?_ _ | refine blk_drew ?_ | refine blk_alloc ?_ _)); refine blk_put (cs := #[.int .i64 0, .bool false]) ?_ 0 _ rfl; (with_reducible repeat (first | refine blk_drewN ?_ _ | refine blk_drew ?_ | refine blk_alloc ?_ _)); exact BK179.out) Try.underlying86 rfl zz23) rfl ?_
  exact ⟨zz2, by repeat (first | (with_reducible first | exact HB.out | apply below_alloc | apply pw_below_drewN | apply below_drew1 | refine below_set ?_ GE179.out) | exact HB.out)⟩
def oid_State_Push.f (a0_0 : Int) (a0_1 : Bool) (a1 : Int) : Option (Int × Bool × Bool) := if a0_1 = true then (if (wrap64 (a0_0 - 1)) = 0 then (if a1 ≥ 128 then (some (0, false, false)) else (some (wrap64 (a0_0 - 1), false, true))) else (some (wrap64 (a0_0 - 1), decide (a1 ≥ 128), true))) else (if a1 = 128 then (some (0, false, false)) else (if (wrap64 (a0_0 - 1)) = 0 then (if a1 ≥ 128 then (some (0, false, false)) else (some (wrap64 (a0_0 - 1), false, true))) else (some (wrap64 (a0_0 - 1), decide (a1 ≥ 128), true))))
set_option maxHeartbeats 8000000 in
set_option maxRecDepth 100000 in
theorem oid_State_Push.calls (a0_0 : Int) (a0_1 : Bool) (a1 : Int) (r1 : Int) (r2 : Bool) (r3 : Bool) (w : World) (h : oid_State_Push.f a0_0 a0_1 a1 = some (r1, r2, r3)) :
 Calls Try.prog 102 #[.agg #[.int .i64 a0_0, .bool a0_1], .int .u8 a1] w fun e w' => e = .returned (.tuple #[.agg #[.int .i64 r1, .bool r2], .bool r3]) ∧ Below w.heap.size w w' := by
 have hu86 := Try.underlying86
 have HB := Aside0.mk (Below.refl w.heap.size w)
 have H : (if a0_1 = true then (if (wrap64 (a0_0 - 1)) = 0 then (if a1 ≥ 128 then (some (0, false, false)) else (some (wrap64 (a0_0 - 1), false, true))) else (some (wrap64 (a0_0 - 1), decide (a1 ≥ 128), true))) else (if a1 = 128 then (some (0, false, false)) else (if (wrap64 (a0_0 - 1)) = 0 then (if a1 ≥ 128 then (some (0, false, false)) else (some (wrap64 (a0_0 - 1), false, true))) else (some (wrap64 (a0_0 - 1), decide (a1 ≥ 128), true))))) = some (r1, r2, r3) := h
 clear h
 by_cases c3 : a0_1 = true
 ·
  subst c3
  have H1 : (if (wrap64 (a0_0 - 1)) = 0 then (if a1 ≥ 128 then (some (0, false, false)) else (some (wrap64 (a0_0 - 1), false, true))) else (some (wrap64 (a0_0 - 1), decide (a1 ≥ 128), true))) = some (r1, r2, r3) := by rw [if_pos rfl] at H; exact H
  clear H
  have H := H1
  clear H1
  by_cases c4 : (wrap64 (a0_0 - 1)) = 0
  ·
   rw [if_pos c4] at H
   have c4b0 : ((wrap64 (a0_0 - 1)) == 0) = true := beq_iff_eq.mpr c4
   have c4b1 : ((wrap64 (a0_0 - 1)) != 0) = false := bne_eq_false_iff_eq.mpr c4
   clear c4
   by_cases c5 : a1 ≥ 128
   ·
    rw [if_pos c5] at H
    have c5b0 : decide (128 ≤ a1) = true := decide_eq_true c5
    clear c5
    simp only [Option.some.injEq, Prod.mk.injEq] at H
    obtain ⟨rfl, rfl, rfl⟩ := H
    go_enter Try.func102, Try.ntmps102
    go_wp2_with (first | ((with_reducible refine gate_dst (N := 2) rfl ?_); refine zzbx (N := 2) (cs := #[.int .i64 a0_0, .bool true]) (t := 86) ?_; intro gb180 hg w6 hbox hb; have n0_ := Aside0.mk (below_step zz0 hb); have n1_ := Aside0.mk (hbox); have n2_ := Aside0.mk ((zz12 : w.heap.size ≤ gb180)); have n3_ := Aside0.mk ((zz12 : w.heap.size ≤ gb180)); clear HB; have HB := n0_; have BK180 := n1_; have GW180 := n2_; have GE180 := n3_; clear n0_ n1_ n2_ n3_; clear hb hbox hg) | ((with_reducible refine gate_dst (N := 4) rfl ?_); refine zzbx (N := 4) (cs := #[.int .i64 0, .bool false]) (t := 86) ?_; intro gb181 hg w7 hbox hb; have n0_ := Aside0.mk (blk_below (g := gb180) (o := .cells #[.int .i64 a0_0, .bool true] 86 (0, 0)) zz16 hb); have n1_ := Aside0.mk (below_step zz5 hb); have n2_ := Aside0.mk (hbox); have n3_ := Aside0.mk ((zz63 : w.heap.size ≤ gb181)); have n4_ := Aside0.mk ((zz63 : w.heap.size ≤ gb181)); have n5_ := Aside0.mk ((zz81 : gb180 ≠ gb181)); have n6_ := Aside0.mk ((zz82 : gb181 ≠ gb180)); clear BK180; clear HB; have BK180 := n0_; have HB := n1_; have BK181 := n2_; have GW181 := n3_; have GE181 := n4_; have NB180_181 := n5_; have NB181_180 := n6_; clear n0_ n1_ n2_ n3_ n4_ n5_ n6_; clear hb hbox hg; have hnb8 := NB180_181.out; have hnc8 := NB181_180.out; have hcz9_0 : w7.cell? ⟨gb180, 0, none⟩ = some (.int .i64 a0_0) := (blk_cell BK180.out 0).trans rfl; have hcz9_1 : w7.cell? ⟨gb180, 1, none⟩ = some (.bool true) := (blk_cell BK180.out 1).trans rfl; have hfz9_0 := blk_frozen BK180.out 0; have hfz9_1 := blk_frozen BK180.out 1; have hcz10_0 : w7.cell? ⟨gb181, 0, none⟩ = some (.int .i64 0) := (blk_cell BK181.out 0).trans rfl; have hcz10_1 : w7.cell? ⟨gb181, 1, none⟩ = some (.bool false) := (blk_cell BK181.out 1).trans rfl; have hfz10_0 := blk_frozen BK181.out 0; have hfz10_1 := blk_frozen BK181.out 1))
    refine bodyPost_ret (results_ct rfl _ _ gb181 86 #[.int .i64 0, .bool false] (0, 0) _ rfl zz46 Try.underlying86 rfl zz23) rfl ?_
    exact ⟨zz2, zz42⟩
   ·
    rw [if_neg c5] at H
    have c5b0 : decide (128 ≤ a1) = false := decide_eq_false c5
    clear c5
    simp only [Option.some.injEq, Prod.mk.injEq] at H
    obtain ⟨rfl, rfl, rfl⟩ := H
    go_enter Try.func102, Try.ntmps102
    go_wp2_with (first | ((with_reducible refine gate_dst (N := 2) rfl ?_); refine zzbx (N := 2) (cs := #[.int .i64 a0_0, .bool true]) (t := 86) ?_; intro gb180 hg w11 hbox hb; have n0_ := Aside0.mk (below_step zz0 hb); have n1_ := Aside0.mk (hbox); have n2_ := Aside0.mk ((zz12 : w.heap.size ≤ gb180)); have n3_ := Aside0.mk ((zz12 : w.heap.size ≤ gb180)); clear HB; have HB := n0_; have BK180 := n1_; have GW180 := n2_; have GE180 := n3_; clear n0_ n1_ n2_ n3_; clear hb hbox hg) | ((with_reducible refine gate_dst (N := 4) rfl ?_); refine zzbx (N := 4) (cs := #[.int .i64 0, .bool false]) (t := 86) ?_; intro gb181 hg w12 hbox hb; have n0_ := Aside0.mk (blk_below (g := gb180) (o := .cells #[.int .i64 a0_0, .bool true] 86 (0, 0)) zz16 hb); have n1_ := Aside0.mk (below_step zz5 hb); have n2_ := Aside0.mk (hbox); have n3_ := Aside0.mk ((zz63 : w.heap.size ≤ gb181)); have n4_ := Aside0.mk ((zz63 : w.heap.size ≤ gb181)); have n5_ := Aside0.mk ((zz81 : gb180 ≠ gb181)); have n6_ := Aside0.mk ((zz82 : gb181 ≠ gb180)); clear BK180; clear HB; have BK180 := n0_; have HB := n1_; have BK181 := n2_; have GW181 := n3_; have GE181 := n4_; have NB180_181 := n5_; have NB181_180 := n6_; clear n0_ n1_ n2_ n3_ n4_ n5_ n6_; clear hb hbox hg; have hnb13 := NB180_181.out; have hnc13 := NB181_180.out; have hcz14_0 : w12.cell? ⟨gb180, 0, none⟩ = some (.int .i64 a0_0) := (blk_cell BK180.out 0).trans rfl; have hcz14_1 : w12.cell? ⟨gb180, 1, none⟩ = some (.bool true) := (blk_cell BK180.out 1).trans rfl; have hfz14_0 := blk_frozen BK180.out 0; have hfz14_1 := blk_frozen BK180.out 1; have hcz15_0 : w12.cell? ⟨gb181, 0, none⟩ = some (.int .i64 0) := (blk_cell BK181.out 0).trans rfl; have hcz15_1 : w12.cell? ⟨gb181, 1, none⟩ = some (.bool false) := (blk_cell BK181.out 1).trans rfl; have hfz15_0 := blk_frozen BK181.out 0; have hfz15_1 := blk_frozen BK181.out 1))
    refine bodyPost_ret (results_ct rfl _ _ gb181 86 #[.int .i64 (wrap64 (a0_0 - 1)), .bool false] (0, 0) _ rfl zz19 Try.underlying86 rfl zz23) rfl ?_
    exact ⟨zz2, zz42⟩
  ·
   rw [if_neg c4] at H
   have c4b0 : ((wrap64 (a0_0 - 1)) == 0) = false := beq_eq_false_iff_ne.mpr c4
   have c4b1 : ((wrap64 (a0_0 - 1)) != 0) = true := bne_iff_ne.mpr c4
   simp only [Option.some.injEq, Prod.mk.injEq] at H
   obtain ⟨rfl, rfl, rfl⟩ := H
   go_enter Try.func102, Try.ntmps102
   go_wp2_with (first | ((with_reducible refine gate_dst (N := 2) rfl ?_); refine zzbx (N := 2) (cs := #[.int .i64 a0_0, .bool true]) (t := 86) ?_; intro gb180 hg w16 hbox hb; have n0_ := Aside0.mk (below_step zz0 hb); have n1_ := Aside0.mk (hbox); have n2_ := Aside0.mk ((zz12 : w.heap.size ≤ gb180)); have n3_ := Aside0.mk ((zz12 : w.heap.size ≤ gb180)); clear HB; have HB := n0_; have BK180 := n1_; have GW180 := n2_; have GE180 := n3_; clear n0_ n1_ n2_ n3_; clear hb hbox hg) | ((with_reducible refine gate_dst (N := 4) rfl ?_); refine zzbx (N := 4) (cs := #[.int .i64 0, .bool false]) (t := 86) ?_; intro gb181 hg w17 hbox hb; have n0_ := Aside0.mk (blk_below (g := gb180) (o := .cells #[.int .i64 a0_0, .bool true] 86 (0, 0)) zz16 hb); have n1_ := Aside0.mk (below_step zz5 hb); have n2_ := Aside0.mk (hbox); have n3_ := Aside0.mk ((zz63 : w.heap.size ≤ gb181)); have n4_ := Aside0.mk ((zz63 : w.heap.size ≤ gb181)); have n5_ := Aside0.mk ((zz81 : gb180 ≠ gb181)); have n6_ := Aside0.mk ((zz82 : gb181 ≠ gb180)); clear BK180; clear HB; have BK180 := n0_; have HB := n1_; have BK181 := n2_; have GW181 := n3_; have GE181 := n4_; have NB180_181 := n5_; have NB181_180 := n6_; clear n0_ n1_ n2_ n3_ n4_ n5_ n6_; clear hb hbox hg; have hnb18 := NB180_181.out; have hnc18 := NB181_180.out; have hcz19_0 : w17.cell? ⟨gb180, 0, none⟩ = some (.int .i64 a0_0) := (blk_cell BK180.out 0).trans rfl; have hcz19_1 : w17.cell? ⟨gb180, 1, none⟩ = some (.bool true) := (blk_cell BK180.out 1).trans rfl; have hfz19_0 := blk_frozen BK180.out 0; have hfz19_1 := blk_frozen BK180.out 1; have hcz20_0 : w17.cell? ⟨gb181, 0, none⟩ = some (.int .i64 0) := (blk_cell BK181.out 0).trans rfl; have hcz20_1 : w17.cell? ⟨gb181, 1, none⟩ = some (.bool false) := (blk_cell BK181.out 1).trans rfl; have hfz20_0 := blk_frozen BK181.out 0; have hfz20_1 := blk_frozen BK181.out 1))
   refine bodyPost_ret (results_ct rfl _ _ gb181 86 #[.int .i64 (wrap64 (a0_0 - 1)), .bool (decide (a1 ≥ 128))] (0, 0) _ rfl zz19 Try.underlying86 rfl zz23) rfl ?_
   exact ⟨zz2, zz42⟩
 ·
  replace c3 := Bool.eq_false_iff.mpr c3
  subst c3
  have H1 : (if a1 = 128 then (some (0, false, false)) else (if (wrap64 (a0_0 - 1)) = 0 then (if a1 ≥ 128 then (some (0, false, false)) else (some (wrap64 (a0_0 - 1), false, true))) else (some (wrap64 (a0_0 - 1), decide (a1 ≥ 128), true)))) = some (r1, r2, r3) := by rw [if_neg (show ¬ (false = true) by decide)] at H; exact H
  clear H
  have H := H1
  clear H1
  by_cases c21 : a1 = 128
  ·
   rw [if_pos c21] at H
   have c21b0 : (a1 == 128) = true := beq_iff_eq.mpr c21
   have c21b1 : (a1 != 128) = false := bne_eq_false_iff_eq.mpr c21
   clear c21
   simp only [Option.some.injEq, Prod.mk.injEq] at H
   obtain ⟨rfl, rfl, rfl⟩ := H
   go_enter Try.func102, Try.ntmps102
   go_wp2_with (first | ((with_reducible refine gate_dst (N := 2) rfl ?_); refine zzbx (N := 2) (cs := #[.int .i64 a0_0, .bool false]) (t := 86) ?_; intro gb180 hg w22 hbox hb; have n0_ := Aside0.mk (below_step zz0 hb); have n1_ := Aside0.mk (hbox); have n2_ := Aside0.mk ((zz12 : w.heap.size ≤ gb180)); have n3_ := Aside0.mk ((zz12 : w.heap.size ≤ gb180)); clear HB; have HB := n0_; have BK180 := n1_; have GW180 := n2_; have GE180 := n3_; clear n0_ n1_ n2_ n3_; clear hb hbox hg) | ((with_reducible refine gate_dst (N := 4) rfl ?_); refine zzbx (N := 4) (cs := #[.int .i64 0, .bool false]) (t := 86) ?_; intro gb181 hg w23 hbox hb; have n0_ := Aside0.mk (blk_below (g := gb180) (o := .cells #[.int .i64 a0_0, .bool false] 86 (0, 0)) zz16 hb); have n1_ := Aside0.mk (below_step zz5 hb); have n2_ := Aside0.mk (hbox); have n3_ := Aside0.mk ((zz63 : w.heap.size ≤ gb181)); have n4_ := Aside0.mk ((zz63 : w.heap.size ≤ gb181)); have n5_ := Aside0.mk ((zz72 : gb180 ≠ gb181)); have n6_ := Aside0.mk ((zz73 : gb181 ≠ gb180)); clear BK180; clear HB; have BK180 := n0_; have HB := n1_; have BK181 := n2_; have GW181 := n3_; have GE181 := n4_; have NB180_181 := n5_; have NB181_180 := n6_; clear n0_ n1_ n2_ n3_ n4_ n5_ n6_; clear hb hbox hg; have hnb24 := NB180_181.out; have hnc24 := NB181_180.out; have hcz25_0 : w23.cell? ⟨gb180, 0, none⟩ = some (.int .i64 a0_0) := (blk_cell BK180.out 0).trans rfl; have hcz25_1 : w23.cell? ⟨gb180, 1, none⟩ = some (.bool false) := (blk_cell BK180.out 1).trans rfl; have hfz25_0 := blk_frozen BK180.out 0; have hfz25_1 := blk_frozen BK180.out 1; have hcz26_0 : w23.cell? ⟨gb181, 0, none⟩ = some (.int .i64 0) := (blk_cell BK181.out 0).trans rfl; have hcz26_1 : w23.cell? ⟨gb181, 1, none⟩ = some (.bool false) := (blk_cell BK181.out 1).trans rfl; have hfz26_0 := blk_frozen BK181.out 0; have hfz26_1 := blk_frozen BK181.out 1))
   refine bodyPost_ret (results_ct rfl _ _ gb181 86 #[.int .i64 0, .bool false] (0, 0) _ rfl zz46 Try.underlying86 rfl zz23) rfl ?_
   exact ⟨zz2, zz42⟩
  ·
   rw [if_neg c21] at H
   have c21b0 : (a1 == 128) = false := beq_eq_false_iff_ne.mpr c21
   have c21b1 : (a1 != 128) = true := bne_iff_ne.mpr c21
   by_cases c27 : (wrap64 (a0_0 - 1)) = 0
   ·
    rw [if_pos c27] at H
    have c27b0 : ((wrap64 (a0_0 - 1)) == 0) = true := beq_iff_eq.mpr c27
    have c27b1 : ((wrap64 (a0_0 - 1)) != 0) = false := bne_eq_false_iff_eq.mpr c27
    clear c27
    by_cases c28 : a1 ≥ 128
    ·
     rw [if_pos c28] at H
     have c28b0 : decide (128 ≤ a1) = true := decide_eq_true c28
     clear c28
     simp only [Option.some.injEq, Prod.mk.injEq] at H
     obtain ⟨rfl, rfl, rfl⟩ := H
     go_enter Try.func102, Try.ntmps102
     go_wp2_with (first | ((with_reducible refine gate_dst (N := 2) rfl ?_); refine zzbx (N := 2) (cs := #[.int .i64 a0_0, .bool false]) (t := 86) ?_; intro gb180 hg w29 hbox hb; have n0_ := Aside0.mk (below_step zz0 hb); have n1_ := Aside0.mk (hbox); have n2_ := Aside0.mk ((zz12 : w.heap.size ≤ gb180)); have n3_ := Aside0.mk ((zz12 : w.heap.size ≤ gb180)); clear HB; have HB := n0_; have BK180 := n1_; have GW180 := n2_; have GE180 := n3_; clear n0_ n1_ n2_ n3_; clear hb hbox hg) | ((with_reducible refine gate_dst (N := 4) rfl ?_); refine zzbx (N := 4) (cs := #[.int .i64 0, .bool false]) (t := 86) ?_; intro gb181 hg w30 hbox hb; have n0_ := Aside0.mk (blk_below (g := gb180) (o := .cells #[.int .i64 a0_0, .bool false] 86 (0, 0)) zz16 hb); have n1_ := Aside0.mk (below_step zz5 hb); have n2_ := Aside0.mk (hbox); have n3_ := Aside0.mk ((zz63 : w.heap.size ≤ gb181)); have n4_ := Aside0.mk ((zz63 : w.heap.size ≤ gb181)); have n5_ := Aside0.mk ((zz72 : gb180 ≠ gb181)); have n6_ := Aside0.mk ((zz73 : gb181 ≠ gb180)); clear BK180; clear HB; have BK180 := n0_; have HB := n1_; have BK181 := n2_; have GW181 := n3_; have GE181 := n4_; have NB180_181 := n5_; have NB181_180 := n6_; clear n0_ n1_ n2_ n3_ n4_ n5_ n6_; clear hb hbox hg; have hnb31 := NB180_181.out; have hnc31 := NB181_180.out; have hcz32_0 : w30.cell? ⟨gb180, 0, none⟩ = some (.int .i64 a0_0) := (blk_cell BK180.out 0).trans rfl; have hcz32_1 : w30.cell? ⟨gb180, 1, none⟩ = some (.bool false) := (blk_cell BK180.out 1).trans rfl; have hfz32_0 := blk_frozen BK180.out 0; have hfz32_1 := blk_frozen BK180.out 1; have hcz33_0 : w30.cell? ⟨gb181, 0, none⟩ = some (.int .i64 0) := (blk_cell BK181.out 0).trans rfl; have hcz33_1 : w30.cell? ⟨gb181, 1, none⟩ = some (.bool false) := (blk_cell BK181.out 1).trans rfl; have hfz33_0 := blk_frozen BK181.out 0; have hfz33_1 := blk_frozen BK181.out 1))
     refine bodyPost_ret (results_ct rfl _ _ gb181 86 #[.int .i64 0, .bool false] (0, 0) _ rfl zz46 Try.underlying86 rfl zz23) rfl ?_
     exact ⟨zz2, zz42⟩
    ·
     rw [if_neg c28] at H
     have c28b0 : decide (128 ≤ a1) = false := decide_eq_false c28
     clear c28
     simp only [Option.some.injEq, Prod.mk.injEq] at H
     obtain ⟨rfl, rfl, rfl⟩ := H
     go_enter Try.func102, Try.ntmps102
     go_wp2_with (first | ((with_reducible refine gate_dst (N := 2) rfl ?_); refine zzbx (N := 2) (cs := #[.int .i64 a0_0, .bool false]) (t := 86) ?_; intro gb180 hg w34 hbox hb; have n0_ := Aside0.mk (below_step zz0 hb); have n1_ := Aside0.mk (hbox); have n2_ := Aside0.mk ((zz12 : w.heap.size ≤ gb180)); have n3_ := Aside0.mk ((zz12 : w.heap.size ≤ gb180)); clear HB; have HB := n0_; have BK180 := n1_; have GW180 := n2_; have GE180 := n3_; clear n0_ n1_ n2_ n3_; clear hb hbox hg) | ((with_reducible refine gate_dst (N := 4) rfl ?_); refine zzbx (N := 4) (cs := #[.int .i64 0, .bool false]) (t := 86) ?_; intro gb181 hg w35 hbox hb; have n0_ := Aside0.mk (blk_below (g := gb180) (o := .cells #[.int .i64 a0_0, .bool false] 86 (0, 0)) zz16 hb); have n1_ := Aside0.mk (below_step zz5 hb); have n2_ := Aside0.mk (hbox); have n3_ := Aside0.mk ((zz63 : w.heap.size ≤ gb181)); have n4_ := Aside0.mk ((zz63 : w.heap.size ≤ gb181)); have n5_ := Aside0.mk ((zz72 : gb180 ≠ gb181)); have n6_ := Aside0.mk ((zz73 : gb181 ≠ gb180)); clear BK180; clear HB; have BK180 := n0_; have HB := n1_; have BK181 := n2_; have GW181 := n3_; have GE181 := n4_; have NB180_181 := n5_; have NB181_180 := n6_; clear n0_ n1_ n2_ n3_ n4_ n5_ n6_; clear hb hbox hg; have hnb36 := NB180_181.out; have hnc36 := NB181_180.out; have hcz37_0 : w35.cell? ⟨gb180, 0, none⟩ = some (.int .i64 a0_0) := (blk_cell BK180.out 0).trans rfl; have hcz37_1 : w35.cell? ⟨gb180, 1, none⟩ = some (.bool false) := (blk_cell BK180.out 1).trans rfl; have hfz37_0 := blk_frozen BK180.out 0; have hfz37_1 := blk_frozen BK180.out 1; have hcz38_0 : w35.cell? ⟨gb181, 0, none⟩ = some (.int .i64 0) := (blk_cell BK181.out 0).trans rfl; have hcz38_1 : w35.cell? ⟨gb181, 1, none⟩ = some (.bool false) := (blk_cell BK181.out 1).trans rfl; have hfz38_0 := blk_frozen BK181.out 0; have hfz38_1 := blk_frozen BK181.out 1))
     refine bodyPost_ret (results_ct rfl _ _ gb181 86 #[.int .i64 (wrap64 (a0_0 - 1)), .bool false] (0, 0) _ rfl zz19 Try.underlying86 rfl zz23) rfl ?_
     exact ⟨zz2, zz42⟩
   ·
    rw [if_neg c27] at H
    have c27b0 : ((wrap64 (a0_0 - 1)) == 0) = false := beq_eq_false_iff_ne.mpr c27
    have c27b1 : ((wrap64 (a0_0 - 1)) != 0) = true := bne_iff_ne.mpr c27
    simp only [Option.some.injEq, Prod.mk.injEq] at H
    obtain ⟨rfl, rfl, rfl⟩ := H
    go_enter Try.func102, Try.ntmps102
    go_wp2_with (first | ((with_reducible refine gate_dst (N := 2) rfl ?_); refine zzbx (N := 2) (cs := #[.int .i64 a0_0, .bool false]) (t := 86) ?_; intro gb180 hg w39 hbox hb; have n0_ := Aside0.mk (below_step zz0 hb); have n1_ := Aside0.mk (hbox); have n2_ := Aside0.mk ((zz12 : w.heap.size ≤ gb180)); have n3_ := Aside0.mk ((zz12 : w.heap.size ≤ gb180)); clear HB; have HB := n0_; have BK180 := n1_; have GW180 := n2_; have GE180 := n3_; clear n0_ n1_ n2_ n3_; clear hb hbox hg) | ((with_reducible refine gate_dst (N := 4) rfl ?_); refine zzbx (N := 4) (cs := #[.int .i64 0, .bool false]) (t := 86) ?_; intro gb181 hg w40 hbox hb; have n0_ := Aside0.mk (blk_below (g := gb180) (o := .cells #[.int .i64 a0_0, .bool false] 86 (0, 0)) zz16 hb); have n1_ := Aside0.mk (below_step zz5 hb); have n2_ := Aside0.mk (hbox); have n3_ := Aside0.mk ((zz63 : w.heap.size ≤ gb181)); have n4_ := Aside0.mk ((zz63 : w.heap.size ≤ gb181)); have n5_ := Aside0.mk ((zz72 : gb180 ≠ gb181)); have n6_ := Aside0.mk ((zz73 : gb181 ≠ gb180)); clear BK180; clear HB; have BK180 := n0_; have HB := n1_; have BK181 := n2_; have GW181 := n3_; have GE181 := n4_; have NB180_181 := n5_; have NB181_180 := n6_; clear n0_ n1_ n2_ n3_ n4_ n5_ n6_; clear hb hbox hg; have hnb41 := NB180_181.out; have hnc41 := NB181_180.out; have hcz42_0 : w40.cell? ⟨gb180, 0, none⟩ = some (.int .i64 a0_0) := (blk_cell BK180.out 0).trans rfl; have hcz42_1 : w40.cell? ⟨gb180, 1, none⟩ = some (.bool false) := (blk_cell BK180.out 1).trans rfl; have hfz42_0 := blk_frozen BK180.out 0; have hfz42_1 := blk_frozen BK180.out 1; have hcz43_0 : w40.cell? ⟨gb181, 0, none⟩ = some (.int .i64 0) := (blk_cell BK181.out 0).trans rfl; have hcz43_1 : w40.cell? ⟨gb181, 1, none⟩ = some (.bool false) := (blk_cell BK181.out 1).trans rfl; have hfz43_0 := blk_frozen BK181.out 0; have hfz43_1 := blk_frozen BK181.out 1))
    refine bodyPost_ret (results_ct rfl _ _ gb181 86 #[.int .i64 (wrap64 (a0_0 - 1)), .bool (decide (a1 ≥ 128))] (0, 0) _ rfl zz19 Try.underlying86 rfl zz23) rfl ?_
    exact ⟨zz2, zz42⟩
def bitstr_Start.f (a0 : Int) : Option (Int × Bool × Int × Bool) := if a0 < 1 then (some (0, false, 0, false)) else (some (a0, false, 0, true))
set_option maxHeartbeats 8000000 in
set_option maxRecDepth 100000 in
theorem bitstr_Start.calls (a0 : Int) (r1 : Int) (r2 : Bool) (r3 : Int) (r4 : Bool) (w : World) (h : bitstr_Start.f a0 = some (r1, r2, r3, r4)) :
 Calls Try.prog 50 #[.int .i64 a0] w fun e w' => e = .returned (.tuple #[.agg #[.int .i64 r1, .bool r2, .int .u8 r3], .bool r4]) ∧ Below w.heap.size w w' := by
 have hu91 := Try.underlying91
 have HB := Aside0.mk (Below.refl w.heap.size w)
 have H : (if a0 < 1 then (some (0, false, 0, false)) else (some (a0, false, 0, true))) = some (r1, r2, r3, r4) := h
 clear h
 by_cases c2 : a0 < 1
 ·
  rw [if_pos c2] at H
  have c2b0 : decide (a0 < 1) = true := decide_eq_true c2
  clear c2
  simp only [Option.some.injEq, Prod.mk.injEq] at H
  obtain ⟨rfl, rfl, rfl, rfl⟩ := H
  go_enter Try.func50, Try.ntmps50
  go_wp2_with (first | ((with_reducible refine gate_dst (N := 2) rfl ?_); refine zzbx (N := 2) (cs := #[.int .i64 0, .bool false, .int .u8 0]) (t := 91) ?_; intro gb182 hg w3 hbox hb; have n0_ := Aside0.mk (below_step zz0 hb); have n1_ := Aside0.mk (hbox); have n2_ := Aside0.mk ((zz12 : w.heap.size ≤ gb182)); have n3_ := Aside0.mk ((zz12 : w.heap.size ≤ gb182)); clear HB; have HB := n0_; have BK182 := n1_; have GW182 := n2_; have GE182 := n3_; clear n0_ n1_ n2_ n3_; clear hb hbox hg; have hcz4_0 : w3.cell? ⟨gb182, 0, none⟩ = some (.int .i64 0) := (blk_cell BK182.out 0).trans rfl; have hcz4_1 : w3.cell? ⟨gb182, 1, none⟩ = some (.bool false) := (blk_cell BK182.out 1).trans rfl; have hcz4_2 : w3.cell? ⟨gb182, 2, none⟩ = some (.int .u8 0) := (blk_cell BK182.out 2).trans rfl; have hfz4_0 := blk_frozen BK182.out 0; have hfz4_1 := blk_frozen BK182.out 1; have hfz4_2 := blk_frozen BK182.out 2))
  refine bodyPost_ret (results_ct rfl _ _ gb182 91 #[.int .i64 0, .bool false, .int .u8 0] (0, 0) _ rfl (by (with_reducible repeat (first | refine blk_drewN ?_ _ | refine blk_drew ?_ | refine blk_alloc ?_ _)); refine blk_put (cs := #[.int .i64 0, .bool false, .int .u8 0]) ?_ 2 _ rfl; (with_reducible repeat (first | refine blk_drewN ?_ _ | refine blk_drew ?_ | refine blk_alloc ?_ _)); refine blk_put (cs := #[.int .i64 0, .bool false, .int .u8 0]) ?_ 1 _ rfl; (with_reducible repeat (first | refine blk_drewN ?_ _ | refine blk_drew ?_ | refine blk_alloc ?_ _)); refine blk_put (cs := #[.int .i64 0, .bool false, .int .u8 0]) ?_ 0 _ rfl; (with_reducible repeat (first | refine blk_drewN ?_ _ | refine blk_drew ?_ | refine blk_alloc ?_ _)); exact BK182.out) Try.underlying91 rfl zz23) rfl ?_
  exact ⟨zz2, by repeat (first | (with_reducible first | exact HB.out | apply below_alloc | apply pw_below_drewN | apply below_drew1 | refine below_set ?_ GE182.out) | exact HB.out)⟩
 ·
  rw [if_neg c2] at H
  have c2b0 : decide (a0 < 1) = false := decide_eq_false c2
  clear c2
  simp only [Option.some.injEq, Prod.mk.injEq] at H
  obtain ⟨rfl, rfl, rfl, rfl⟩ := H
  go_enter Try.func50, Try.ntmps50
  go_wp2_with (first | ((with_reducible refine gate_dst (N := 2) rfl ?_); refine zzbx (N := 2) (cs := #[.int .i64 0, .bool false, .int .u8 0]) (t := 91) ?_; intro gb182 hg w5 hbox hb; have n0_ := Aside0.mk (below_step zz0 hb); have n1_ := Aside0.mk (hbox); have n2_ := Aside0.mk ((zz12 : w.heap.size ≤ gb182)); have n3_ := Aside0.mk ((zz12 : w.heap.size ≤ gb182)); clear HB; have HB := n0_; have BK182 := n1_; have GW182 := n2_; have GE182 := n3_; clear n0_ n1_ n2_ n3_; clear hb hbox hg; have hcz6_0 : w5.cell? ⟨gb182, 0, none⟩ = some (.int .i64 0) := (blk_cell BK182.out 0).trans rfl; have hcz6_1 : w5.cell? ⟨gb182, 1, none⟩ = some (.bool false) := (blk_cell BK182.out 1).trans rfl; have hcz6_2 : w5.cell? ⟨gb182, 2, none⟩ = some (.int .u8 0) := (blk_cell BK182.out 2).trans rfl; have hfz6_0 := blk_frozen BK182.out 0; have hfz6_1 := blk_frozen BK182.out 1; have hfz6_2 := blk_frozen BK182.out 2))
  refine bodyPost_ret (results_ct rfl _ _ gb182 91 #[.int .i64 a0, .bool false, .int .u8 0] (0, 0) _ rfl (by (with_reducible repeat (first | refine blk_drewN ?_ _ | refine blk_drew ?_ | refine blk_alloc ?_ _)); refine blk_put (cs := #[.int .i64 a0, .bool false, .int .u8 0]) ?_ 2 _ rfl; (with_reducible repeat (first | refine blk_drewN ?_ _ | refine blk_drew ?_ | refine blk_alloc ?_ _)); refine blk_put (cs := #[.int .i64 a0, .bool false, .int .u8 0]) ?_ 1 _ rfl; (with_reducible repeat (first | refine blk_drewN ?_ _ | refine blk_drew ?_ | refine blk_alloc ?_ _)); refine blk_put (cs := #[.int .i64 0, .bool false, .int .u8 0]) ?_ 0 _ rfl; (with_reducible repeat (first | refine blk_drewN ?_ _ | refine blk_drew ?_ | refine blk_alloc ?_ _)); exact BK182.out) Try.underlying91 rfl zz23) rfl ?_
  exact ⟨zz2, by repeat (first | (with_reducible first | exact HB.out | apply below_alloc | apply pw_below_drewN | apply below_drew1 | refine below_set ?_ GE182.out) | exact HB.out)⟩
def bitstr_State_Push.f (a0_0 : Int) (a0_1 : Bool) (a0_2 : Int) (a1 : Int) : Option (Int × Bool × Int × Bool) := if a0_1 = true then (if (wrap64 (a0_0 - 1)) = 0 then (if 0 ≤ a0_2 then (if (Go.bits .and .u8 a1 (((shl .u8 1 a0_2) - 1) % 256)) = 0 then (some (wrap64 (a0_0 - 1), a0_1, a0_2, true)) else (some (0, false, 0, false))) else (none)) else (some (wrap64 (a0_0 - 1), a0_1, a0_2, true))) else (if a1 > 7 then (some (0, false, 0, false)) else (if a1 > 0 then (if (wrap64 (a0_0 - 1)) = 0 then (some (0, false, 0, false)) else (some (wrap64 (a0_0 - 1), true, a1, true))) else (some (wrap64 (a0_0 - 1), true, a1, true))))
set_option maxHeartbeats 8000000 in
set_option maxRecDepth 100000 in
theorem bitstr_State_Push.calls (a0_0 : Int) (a0_1 : Bool) (a0_2 : Int) (a1 : Int) (r1 : Int) (r2 : Bool) (r3 : Int) (r4 : Bool) (w : World) (h : bitstr_State_Push.f a0_0 a0_1 a0_2 a1 = some (r1, r2, r3, r4)) :
 Calls Try.prog 103 #[.agg #[.int .i64 a0_0, .bool a0_1, .int .u8 a0_2], .int .u8 a1] w fun e w' => e = .returned (.tuple #[.agg #[.int .i64 r1, .bool r2, .int .u8 r3], .bool r4]) ∧ Below w.heap.size w w' := by
 have hu91 := Try.underlying91
 have HB := Aside0.mk (Below.refl w.heap.size w)
 have H : (if a0_1 = true then (if (wrap64 (a0_0 - 1)) = 0 then (if 0 ≤ a0_2 then (if (Go.bits .and .u8 a1 (((shl .u8 1 a0_2) - 1) % 256)) = 0 then (some (wrap64 (a0_0 - 1), a0_1, a0_2, true)) else (some (0, false, 0, false))) else (none)) else (some (wrap64 (a0_0 - 1), a0_1, a0_2, true))) else (if a1 > 7 then (some (0, false, 0, false)) else (if a1 > 0 then (if (wrap64 (a0_0 - 1)) = 0 then (some (0, false, 0, false)) else (some (wrap64 (a0_0 - 1), true, a1, true))) else (some (wrap64 (a0_0 - 1), true, a1, true))))) = some (r1, r2, r3, r4) := h
 clear h
 by_cases c3 : a0_1 = true
 ·
  subst c3
  have H1 : (if (wrap64 (a0_0 - 1)) = 0 then (if 0 ≤ a0_2 then (if (Go.bits .and .u8 a1 (((shl .u8 1 a0_2) - 1) % 256)) = 0 then (some (wrap64 (a0_0 - 1), true, a0_2, true)) else (some (0, false, 0, false))) else (none)) else (some (wrap64 (a0_0 - 1), true, a0_2, true))) = some (r1, r2, r3, r4) := by rw [if_pos rfl] at H; exact H
  clear H
  have H := H1
  clear H1
  by_cases c4 : (wrap64 (a0_0 - 1)) = 0
  ·
   rw [if_pos c4] at H
   have c4b0 : ((wrap64 (a0_0 - 1)) == 0) = true := beq_iff_eq.mpr c4
   have c4b1 : ((wrap64 (a0_0 - 1)) != 0) = false := bne_eq_false_iff_eq.mpr c4
   clear c4
   by_cases c5 : 0 ≤ a0_2
   ·
    rw [if_pos c5] at H
    have c5b0 := eq_true c5
    have c5b1 : decide (0 ≤ a0_2) = true := decide_eq_true c5
    clear c5
    obtain ⟨ji6, hji6⟩ : ∃ j_ : Int, (shl .u8 1 a0_2) = j_ := ⟨_, rfl⟩
    replace H : (if (Go.bits .and .u8 a1 (((ji6) - 1) % 256)) = 0 then (some (wrap64 (a0_0 - 1), true, a0_2, true)) else (some (0, false, 0, false))) = some (r1, r2, r3, r4) := by first | (rw [hji6] at H; exact H) | (simp only [hji6] at H ⊢; exact H)
    have hji6_ : (IntKind.u8.wrap (1 * 2 ^ min a0_2.toNat 8)) = ji6 := hji6
    have hji6z : a0_2 ≤ 8 → (IntKind.u8.wrap (1 * 2 ^ a0_2.toNat)) = ji6 := shl_small hji6
    have hji6u : (IntKind.u8.wrap (2 ^ min a0_2.toNat 8)) = ji6 := by have h_ := hji6_; rw [Int.one_mul] at h_; exact h_
    have hji6v : a0_2 ≤ 8 → (IntKind.u8.wrap (2 ^ a0_2.toNat)) = ji6 := fun hle_ => by have h_ := hji6z hle_; rw [Int.one_mul] at h_; exact h_
    by_cases c7 : (Go.bits .and .u8 a1 (((ji6) - 1) % 256)) = 0
    ·
     rw [if_pos c7] at H
     have c7b0 : ((Go.bits .and .u8 a1 (((ji6) - 1) % 256)) == 0) = true := beq_iff_eq.mpr c7
     have c7b1 : ((Go.bits .and .u8 a1 (((ji6) - 1) % 256)) != 0) = false := bne_eq_false_iff_eq.mpr c7
     clear c7
     simp only [Option.some.injEq, Prod.mk.injEq] at H
     obtain ⟨rfl, rfl, rfl, rfl⟩ := H
     go_enter Try.func103, Try.ntmps103
     go_wp2_with (first | ((with_reducible refine gate_dst (N := 2) rfl ?_); refine zzbx (N := 2) (cs := #[.int .i64 a0_0, .bool true, .int .u8 a0_2]) (t := 91) ?_; intro gb183 hg w8 hbox hb; have n0_ := Aside0.mk (below_step zz0 hb); have n1_ := Aside0.mk (hbox); have n2_ := Aside0.mk ((zz12 : w.heap.size ≤ gb183)); have n3_ := Aside0.mk ((zz12 : w.heap.size ≤ gb183)); clear HB; have HB := n0_; have BK183 := n1_; have GW183 := n2_; have GE183 := n3_; clear n0_ n1_ n2_ n3_; clear hb hbox hg) | ((with_reducible refine gate_dst (N := 4) rfl ?_); refine zzbx (N := 4) (cs := #[.int .i64 0, .bool false, .int .u8 0]) (t := 91) ?_; intro gb184 hg w9 hbox hb; have n0_ := Aside0.mk (blk_below (g := gb183) (o := .cells #[.int .i64 a0_0, .bool true, .int .u8 a0_2] 91 (0, 0)) zz17 hb); have n1_ := Aside0.mk (below_step zz6 hb); have n2_ := Aside0.mk (hbox); have n3_ := Aside0.mk ((zz64 : w.heap.size ≤ gb184)); have n4_ := Aside0.mk ((zz64 : w.heap.size ≤ gb184)); have n5_ := Aside0.mk ((zz74 : gb183 ≠ gb184)); have n6_ := Aside0.mk ((zz75 : gb184 ≠ gb183)); clear BK183; clear HB; have BK183 := n0_; have HB := n1_; have BK184 := n2_; have GW184 := n3_; have GE184 := n4_; have NB183_184 := n5_; have NB184_183 := n6_; clear n0_ n1_ n2_ n3_ n4_ n5_ n6_; clear hb hbox hg; have hnb10 := NB183_184.out; have hnc10 := NB184_183.out; have hcz11_0 : w9.cell? ⟨gb183, 0, none⟩ = some (.int .i64 a0_0) := (blk_cell BK183.out 0).trans rfl; have hcz11_1 : w9.cell? ⟨gb183, 1, none⟩ = some (.bool true) := (blk_cell BK183.out 1).trans rfl; have hcz11_2 : w9.cell? ⟨gb183, 2, none⟩ = some (.int .u8 a0_2) := (blk_cell BK183.out 2).trans rfl; have hfz11_0 := blk_frozen BK183.out 0; have hfz11_1 := blk_frozen BK183.out 1; have hfz11_2 := blk_frozen BK183.out 2; have hcz12_0 : w9.cell? ⟨gb184, 0, none⟩ = some (.int .i64 0) := (blk_cell BK184.out 0).trans rfl; have hcz12_1 : w9.cell? ⟨gb184, 1, none⟩ = some (.bool false) := (blk_cell BK184.out 1).trans rfl; have hcz12_2 : w9.cell? ⟨gb184, 2, none⟩ = some (.int .u8 0) := (blk_cell BK184.out 2).trans rfl; have hfz12_0 := blk_frozen BK184.out 0; have hfz12_1 := blk_frozen BK184.out 1; have hfz12_2 := blk_frozen BK184.out 2))
     refine bodyPost_ret (results_ct rfl _ _ gb184 91 #[.int .i64 (wrap64 (a0_0 - 1)), .bool true, .int .u8 a0_2] (0, 0) _ rfl (by (with_reducible repeat (first | refine blk_drewN ?_ _ | refine blk_drew ?_ | refine blk_alloc ?_ _)); refine blk_put (cs := #[.int .i64 (wrap64 (a0_0 - 1)), .bool true, .int .u8 0]) ?_ 2 _ rfl; (with_reducible repeat (first | refine blk_drewN ?_ _ | refine blk_drew ?_ | refine blk_alloc ?_ _)); refine blk_put (cs := #[.int .i64 (wrap64 (a0_0 - 1)), .bool false, .int .u8 0]) ?_ 1 _ rfl; (with_reducible repeat (first | refine blk_drewN ?_ _ | refine blk_drew ?_ | refine blk_alloc ?_ _)); refine blk_put (cs := #[.int .i64 0, .bool false, .int .u8 0]) ?_ 0 _ rfl; (with_reducible repeat (first | refine blk_drewN ?_ _ | refine blk_drew ?_ | refine blk_alloc ?_ _)); refine blk_far ?_ NB184_183.out _; (with_reducible repeat (first | refine blk_drewN ?_ _ | refine blk_drew ?_ | refine blk_alloc ?_ _)); exact BK184.out) Try.underlying91 rfl zz23) rfl ?_
     exact ⟨by first | rfl | (simp [errW_none, errW_some] <;> rfl) | (simp only [← hji6]; first | rfl | (simp [errW_none, errW_some] <;> rfl)) | (simp [*, errW_none, errW_some] <;> rfl), zz43⟩
    ·
     rw [if_neg c7] at H
     have c7b0 : ((Go.bits .and .u8 a1 (((ji6) - 1) % 256)) == 0) = false := beq_eq_false_iff_ne.mpr c7
     have c7b1 : ((Go.bits .and .u8 a1 (((ji6) - 1) % 256)) != 0) = true := bne_iff_ne.mpr c7
     simp only [Option.some.injEq, Prod.mk.injEq] at H
     obtain ⟨rfl, rfl, rfl, rfl⟩ := H
     go_enter Try.func103, Try.ntmps103
     go_wp2_with (first | ((with_reducible refine gate_dst (N := 2) rfl ?_); refine zzbx (N := 2) (cs := #[.int .i64 a0_0, .bool true, .int .u8 a0_2]) (t := 91) ?_; intro gb183 hg w13 hbox hb; have n0_ := Aside0.mk (below_step zz0 hb); have n1_ := Aside0.mk (hbox); have n2_ := Aside0.mk ((zz12 : w.heap.size ≤ gb183)); have n3_ := Aside0.mk ((zz12 : w.heap.size ≤ gb183)); clear HB; have HB := n0_; have BK183 := n1_; have GW183 := n2_; have GE183 := n3_; clear n0_ n1_ n2_ n3_; clear hb hbox hg) | ((with_reducible refine gate_dst (N := 4) rfl ?_); refine zzbx (N := 4) (cs := #[.int .i64 0, .bool false, .int .u8 0]) (t := 91) ?_; intro gb184 hg w14 hbox hb; have n0_ := Aside0.mk (blk_below (g := gb183) (o := .cells #[.int .i64 a0_0, .bool true, .int .u8 a0_2] 91 (0, 0)) zz17 hb); have n1_ := Aside0.mk (below_step zz6 hb); have n2_ := Aside0.mk (hbox); have n3_ := Aside0.mk ((zz64 : w.heap.size ≤ gb184)); have n4_ := Aside0.mk ((zz64 : w.heap.size ≤ gb184)); have n5_ := Aside0.mk ((zz74 : gb183 ≠ gb184)); have n6_ := Aside0.mk ((zz75 : gb184 ≠ gb183)); clear BK183; clear HB; have BK183 := n0_; have HB := n1_; have BK184 := n2_; have GW184 := n3_; have GE184 := n4_; have NB183_184 := n5_; have NB184_183 := n6_; clear n0_ n1_ n2_ n3_ n4_ n5_ n6_; clear hb hbox hg; have hnb15 := NB183_184.out; have hnc15 := NB184_183.out; have hcz16_0 : w14.cell? ⟨gb183, 0, none⟩ = some (.int .i64 a0_0) := (blk_cell BK183.out 0).trans rfl; have hcz16_1 : w14.cell? ⟨gb183, 1, none⟩ = some (.bool true) := (blk_cell BK183.out 1).trans rfl; have hcz16_2 : w14.cell? ⟨gb183, 2, none⟩ = some (.int .u8 a0_2) := (blk_cell BK183.out 2).trans rfl; have hfz16_0 := blk_frozen BK183.out 0; have hfz16_1 := blk_frozen BK183.out 1; have hfz16_2 := blk_frozen BK183.out 2; have hcz17_0 : w14.cell? ⟨gb184, 0, none⟩ = some (.int .i64 0) := (blk_cell BK184.out 0).trans rfl; have hcz17_1 : w14.cell? ⟨gb184, 1, none⟩ = some (.bool false) := (blk_cell BK184.out 1).trans rfl; have hcz17_2 : w14.cell? ⟨gb184, 2, none⟩ = some (.int .u8 0) := (blk_cell BK184.out 2).trans rfl; have hfz17_0 := blk_frozen BK184.out 0; have hfz17_1 := blk_frozen BK184.out 1; have hfz17_2 := blk_frozen BK184.out 2))
     refine bodyPost_ret (results_ct rfl _ _ gb184 91 #[.int .i64 0, .bool false, .int .u8 0] (0, 0) _ rfl zz32 Try.underlying91 rfl zz23) rfl ?_
     exact ⟨by first | rfl | (simp [errW_none, errW_some] <;> rfl) | (simp only [← hji6]; first | rfl | (simp [errW_none, errW_some] <;> rfl)) | (simp [*, errW_none, errW_some] <;> rfl), zz43⟩
   ·
    rw [if_neg c5] at H
    exact absurd H zz56
  ·
   rw [if_neg c4] at H
   have c4b0 : ((wrap64 (a0_0 - 1)) == 0) = false := beq_eq_false_iff_ne.mpr c4
   have c4b1 : ((wrap64 (a0_0 - 1)) != 0) = true := bne_iff_ne.mpr c4
   simp only [Option.some.injEq, Prod.mk.injEq] at H
   obtain ⟨rfl, rfl, rfl, rfl⟩ := H
   go_enter Try.func103, Try.ntmps103
   go_wp2_with (first | ((with_reducible refine gate_dst (N := 2) rfl ?_); refine zzbx (N := 2) (cs := #[.int .i64 a0_0, .bool true, .int .u8 a0_2]) (t := 91) ?_; intro gb183 hg w18 hbox hb; have n0_ := Aside0.mk (below_step zz0 hb); have n1_ := Aside0.mk (hbox); have n2_ := Aside0.mk ((zz12 : w.heap.size ≤ gb183)); have n3_ := Aside0.mk ((zz12 : w.heap.size ≤ gb183)); clear HB; have HB := n0_; have BK183 := n1_; have GW183 := n2_; have GE183 := n3_; clear n0_ n1_ n2_ n3_; clear hb hbox hg) | ((with_reducible refine gate_dst (N := 4) rfl ?_); refine zzbx (N := 4) (cs := #[.int .i64 0, .bool false, .int .u8 0]) (t := 91) ?_; intro gb184 hg w19 hbox hb; have n0_ := Aside0.mk (blk_below (g := gb183) (o := .cells #[.int .i64 a0_0, .bool true, .int .u8 a0_2] 91 (0, 0)) zz17 hb); have n1_ := Aside0.mk (below_step zz6 hb); have n2_ := Aside0.mk (hbox); have n3_ := Aside0.mk ((zz64 : w.heap.size ≤ gb184)); have n4_ := Aside0.mk ((zz64 : w.heap.size ≤ gb184)); have n5_ := Aside0.mk ((zz74 : gb183 ≠ gb184)); have n6_ := Aside0.mk ((zz75 : gb184 ≠ gb183)); clear BK183; clear HB; have BK183 := n0_; have HB := n1_; have BK184 := n2_; have GW184 := n3_; have GE184 := n4_; have NB183_184 := n5_; have NB184_183 := n6_; clear n0_ n1_ n2_ n3_ n4_ n5_ n6_; clear hb hbox hg; have hnb20 := NB183_184.out; have hnc20 := NB184_183.out; have hcz21_0 : w19.cell? ⟨gb183, 0, none⟩ = some (.int .i64 a0_0) := (blk_cell BK183.out 0).trans rfl; have hcz21_1 : w19.cell? ⟨gb183, 1, none⟩ = some (.bool true) := (blk_cell BK183.out 1).trans rfl; have hcz21_2 : w19.cell? ⟨gb183, 2, none⟩ = some (.int .u8 a0_2) := (blk_cell BK183.out 2).trans rfl; have hfz21_0 := blk_frozen BK183.out 0; have hfz21_1 := blk_frozen BK183.out 1; have hfz21_2 := blk_frozen BK183.out 2; have hcz22_0 : w19.cell? ⟨gb184, 0, none⟩ = some (.int .i64 0) := (blk_cell BK184.out 0).trans rfl; have hcz22_1 : w19.cell? ⟨gb184, 1, none⟩ = some (.bool false) := (blk_cell BK184.out 1).trans rfl; have hcz22_2 : w19.cell? ⟨gb184, 2, none⟩ = some (.int .u8 0) := (blk_cell BK184.out 2).trans rfl; have hfz22_0 := blk_frozen BK184.out 0; have hfz22_1 := blk_frozen BK184.out 1; have hfz22_2 := blk_frozen BK184.out 2))
   refine bodyPost_ret (results_ct rfl _ _ gb184 91 #[.int .i64 (wrap64 (a0_0 - 1)), .bool true, .int .u8 a0_2] (0, 0) _ rfl (by (with_reducible repeat (first | refine blk_drewN ?_ _ | refine blk_drew ?_ | refine blk_alloc ?_ _)); refine blk_put (cs := #[.int .i64 (wrap64 (a0_0 - 1)), .bool true, .int .u8 0]) ?_ 2 _ rfl; (with_reducible repeat (first | refine blk_drewN ?_ _ | refine blk_drew ?_ | refine blk_alloc ?_ _)); refine blk_put (cs := #[.int .i64 (wrap64 (a0_0 - 1)), .bool false, .int .u8 0]) ?_ 1 _ rfl; (with_reducible repeat (first | refine blk_drewN ?_ _ | refine blk_drew ?_ | refine blk_alloc ?_ _)); refine blk_put (cs := #[.int .i64 0, .bool false, .int .u8 0]) ?_ 0 _ rfl; (with_reducible repeat (first | refine blk_drewN ?_ _ | refine blk_drew ?_ | refine blk_alloc ?_ _)); refine blk_far ?_ NB184_183.out _; (with_reducible repeat (first | refine blk_drewN ?_ _ | refine blk_drew ?_ | refine blk_alloc ?_ _)); exact BK184.out) Try.underlying91 rfl zz23) rfl ?_
   exact ⟨zz2, zz43⟩
 ·
  replace c3 := Bool.eq_false_iff.mpr c3
  subst c3
  have H1 : (if a1 > 7 then (some (0, false, 0, false)) else (if a1 > 0 then (if (wrap64 (a0_0 - 1)) = 0 then (some (0, false, 0, false)) else (some (wrap64 (a0_0 - 1), true, a1, true))) else (some (wrap64 (a0_0 - 1), true, a1, true)))) = some (r1, r2, r3, r4) := by rw [if_neg (show ¬ (false = true) by decide)] at H; exact H
  clear H
  have H := H1
  clear H1
  by_cases c23 : a1 > 7
  ·
   rw [if_pos c23] at H
   have c23b0 : decide (7 < a1) = true := decide_eq_true c23
   clear c23
   simp only [Option.some.injEq, Prod.mk.injEq] at H
   obtain ⟨rfl, rfl, rfl, rfl⟩ := H
   go_enter Try.func103, Try.ntmps103
   go_wp2_with (first | ((with_reducible refine gate_dst (N := 2) rfl ?_); refine zzbx (N := 2) (cs := #[.int .i64 a0_0, .bool false, .int .u8 a0_2]) (t := 91) ?_; intro gb183 hg w24 hbox hb; have n0_ := Aside0.mk (below_step zz0 hb); have n1_ := Aside0.mk (hbox); have n2_ := Aside0.mk ((zz12 : w.heap.size ≤ gb183)); have n3_ := Aside0.mk ((zz12 : w.heap.size ≤ gb183)); clear HB; have HB := n0_; have BK183 := n1_; have GW183 := n2_; have GE183 := n3_; clear n0_ n1_ n2_ n3_; clear hb hbox hg) | ((with_reducible refine gate_dst (N := 4) rfl ?_); refine zzbx (N := 4) (cs := #[.int .i64 0, .bool false, .int .u8 0]) (t := 91) ?_; intro gb184 hg w25 hbox hb; have n0_ := Aside0.mk (blk_below (g := gb183) (o := .cells #[.int .i64 a0_0, .bool false, .int .u8 a0_2] 91 (0, 0)) zz17 hb); have n1_ := Aside0.mk (below_step zz6 hb); have n2_ := Aside0.mk (hbox); have n3_ := Aside0.mk ((zz64 : w.heap.size ≤ gb184)); have n4_ := Aside0.mk ((zz64 : w.heap.size ≤ gb184)); have n5_ := Aside0.mk ((zz66 : gb183 ≠ gb184)); have n6_ := Aside0.mk ((zz67 : gb184 ≠ gb183)); clear BK183; clear HB; have BK183 := n0_; have HB := n1_; have BK184 := n2_; have GW184 := n3_; have GE184 := n4_; have NB183_184 := n5_; have NB184_183 := n6_; clear n0_ n1_ n2_ n3_ n4_ n5_ n6_; clear hb hbox hg; have hnb26 := NB183_184.out; have hnc26 := NB184_183.out; have hcz27_0 : w25.cell? ⟨gb183, 0, none⟩ = some (.int .i64 a0_0) := (blk_cell BK183.out 0).trans rfl; have hcz27_1 : w25.cell? ⟨gb183, 1, none⟩ = some (.bool false) := (blk_cell BK183.out 1).trans rfl; have hcz27_2 : w25.cell? ⟨gb183, 2, none⟩ = some (.int .u8 a0_2) := (blk_cell BK183.out 2).trans rfl; have hfz27_0 := blk_frozen BK183.out 0; have hfz27_1 := blk_frozen BK183.out 1; have hfz27_2 := blk_frozen BK183.out 2; have hcz28_0 : w25.cell? ⟨gb184, 0, none⟩ = some (.int .i64 0) := (blk_cell BK184.out 0).trans rfl; have hcz28_1 : w25.cell? ⟨gb184, 1, none⟩ = some (.bool false) := (blk_cell BK184.out 1).trans rfl; have hcz28_2 : w25.cell? ⟨gb184, 2, none⟩ = some (.int .u8 0) := (blk_cell BK184.out 2).trans rfl; have hfz28_0 := blk_frozen BK184.out 0; have hfz28_1 := blk_frozen BK184.out 1; have hfz28_2 := blk_frozen BK184.out 2))
   refine bodyPost_ret (results_ct rfl _ _ gb184 91 #[.int .i64 0, .bool false, .int .u8 0] (0, 0) _ rfl zz32 Try.underlying91 rfl zz23) rfl ?_
   exact ⟨zz2, zz43⟩
  ·
   rw [if_neg c23] at H
   have c23b0 : decide (7 < a1) = false := decide_eq_false c23
   clear c23
   by_cases c29 : a1 > 0
   ·
    rw [if_pos c29] at H
    have c29b0 : decide (0 < a1) = true := decide_eq_true c29
    clear c29
    by_cases c30 : (wrap64 (a0_0 - 1)) = 0
    ·
     rw [if_pos c30] at H
     have c30b0 : ((wrap64 (a0_0 - 1)) == 0) = true := beq_iff_eq.mpr c30
     have c30b1 : ((wrap64 (a0_0 - 1)) != 0) = false := bne_eq_false_iff_eq.mpr c30
     clear c30
     simp only [Option.some.injEq, Prod.mk.injEq] at H
     obtain ⟨rfl, rfl, rfl, rfl⟩ := H
     go_enter Try.func103, Try.ntmps103
     go_wp2_with (first | ((with_reducible refine gate_dst (N := 2) rfl ?_); refine zzbx (N := 2) (cs := #[.int .i64 a0_0, .bool false, .int .u8 a0_2]) (t := 91) ?_; intro gb183 hg w31 hbox hb; have n0_ := Aside0.mk (below_step zz0 hb); have n1_ := Aside0.mk (hbox); have n2_ := Aside0.mk ((zz12 : w.heap.size ≤ gb183)); have n3_ := Aside0.mk ((zz12 : w.heap.size ≤ gb183)); clear HB; have HB := n0_; have BK183 := n1_; have GW183 := n2_; have GE183 := n3_; clear n0_ n1_ n2_ n3_; clear hb hbox hg) | ((with_reducible refine gate_dst (N := 4) rfl ?_); refine zzbx (N := 4) (cs := #[.int .i64 0, .bool false, .int .u8 0]) (t := 91) ?_; intro gb184 hg w32 hbox hb; have n0_ := Aside0.mk (blk_below (g := gb183) (o := .cells #[.int .i64 a0_0, .bool false, .int .u8 a0_2] 91 (0, 0)) zz17 hb); have n1_ := Aside0.mk (below_step zz6 hb); have n2_ := Aside0.mk (hbox); have n3_ := Aside0.mk ((zz64 : w.heap.size ≤ gb184)); have n4_ := Aside0.mk ((zz64 : w.heap.size ≤ gb184)); have n5_ := Aside0.mk ((zz66 : gb183 ≠ gb184)); have n6_ := Aside0.mk ((zz67 : gb184 ≠ gb183)); clear BK183; clear HB; have BK183 := n0_; have HB := n1_; have BK184 := n2_; have GW184 := n3_; have GE184 := n4_; have NB183_184 := n5_; have NB184_183 := n6_; clear n0_ n1_ n2_ n3_ n4_ n5_ n6_; clear hb hbox hg; have hnb33 := NB183_184.out; have hnc33 := NB184_183.out; have hcz34_0 : w32.cell? ⟨gb183, 0, none⟩ = some (.int .i64 a0_0) := (blk_cell BK183.out 0).trans rfl; have hcz34_1 : w32.cell? ⟨gb183, 1, none⟩ = some (.bool false) := (blk_cell BK183.out 1).trans rfl; have hcz34_2 : w32.cell? ⟨gb183, 2, none⟩ = some (.int .u8 a0_2) := (blk_cell BK183.out 2).trans rfl; have hfz34_0 := blk_frozen BK183.out 0; have hfz34_1 := blk_frozen BK183.out 1; have hfz34_2 := blk_frozen BK183.out 2; have hcz35_0 : w32.cell? ⟨gb184, 0, none⟩ = some (.int .i64 0) := (blk_cell BK184.out 0).trans rfl; have hcz35_1 : w32.cell? ⟨gb184, 1, none⟩ = some (.bool false) := (blk_cell BK184.out 1).trans rfl; have hcz35_2 : w32.cell? ⟨gb184, 2, none⟩ = some (.int .u8 0) := (blk_cell BK184.out 2).trans rfl; have hfz35_0 := blk_frozen BK184.out 0; have hfz35_1 := blk_frozen BK184.out 1; have hfz35_2 := blk_frozen BK184.out 2))
     refine bodyPost_ret (results_ct rfl _ _ gb184 91 #[.int .i64 0, .bool false, .int .u8 0] (0, 0) _ rfl zz32 Try.underlying91 rfl zz23) rfl ?_
     exact ⟨zz2, zz43⟩
    ·
     rw [if_neg c30] at H
     have c30b0 : ((wrap64 (a0_0 - 1)) == 0) = false := beq_eq_false_iff_ne.mpr c30
     have c30b1 : ((wrap64 (a0_0 - 1)) != 0) = true := bne_iff_ne.mpr c30
     simp only [Option.some.injEq, Prod.mk.injEq] at H
     obtain ⟨rfl, rfl, rfl, rfl⟩ := H
     go_enter Try.func103, Try.ntmps103
     go_wp2_with (first | ((with_reducible refine gate_dst (N := 2) rfl ?_); refine zzbx (N := 2) (cs := #[.int .i64 a0_0, .bool false, .int .u8 a0_2]) (t := 91) ?_; intro gb183 hg w36 hbox hb; have n0_ := Aside0.mk (below_step zz0 hb); have n1_ := Aside0.mk (hbox); have n2_ := Aside0.mk ((zz12 : w.heap.size ≤ gb183)); have n3_ := Aside0.mk ((zz12 : w.heap.size ≤ gb183)); clear HB; have HB := n0_; have BK183 := n1_; have GW183 := n2_; have GE183 := n3_; clear n0_ n1_ n2_ n3_; clear hb hbox hg) | ((with_reducible refine gate_dst (N := 4) rfl ?_); refine zzbx (N := 4) (cs := #[.int .i64 0, .bool false, .int .u8 0]) (t := 91) ?_; intro gb184 hg w37 hbox hb; have n0_ := Aside0.mk (blk_below (g := gb183) (o := .cells #[.int .i64 a0_0, .bool false, .int .u8 a0_2] 91 (0, 0)) zz17 hb); have n1_ := Aside0.mk (below_step zz6 hb); have n2_ := Aside0.mk (hbox); have n3_ := Aside0.mk ((zz64 : w.heap.size ≤ gb184)); have n4_ := Aside0.mk ((zz64 : w.heap.size ≤ gb184)); have n5_ := Aside0.mk ((zz66 : gb183 ≠ gb184)); have n6_ := Aside0.mk ((zz67 : gb184 ≠ gb183)); clear BK183; clear HB; have BK183 := n0_; have HB := n1_; have BK184 := n2_; have GW184 := n3_; have GE184 := n4_; have NB183_184 := n5_; have NB184_183 := n6_; clear n0_ n1_ n2_ n3_ n4_ n5_ n6_; clear hb hbox hg; have hnb38 := NB183_184.out; have hnc38 := NB184_183.out; have hcz39_0 : w37.cell? ⟨gb183, 0, none⟩ = some (.int .i64 a0_0) := (blk_cell BK183.out 0).trans rfl; have hcz39_1 : w37.cell? ⟨gb183, 1, none⟩ = some (.bool false) := (blk_cell BK183.out 1).trans rfl; have hcz39_2 : w37.cell? ⟨gb183, 2, none⟩ = some (.int .u8 a0_2) := (blk_cell BK183.out 2).trans rfl; have hfz39_0 := blk_frozen BK183.out 0; have hfz39_1 := blk_frozen BK183.out 1; have hfz39_2 := blk_frozen BK183.out 2; have hcz40_0 : w37.cell? ⟨gb184, 0, none⟩ = some (.int .i64 0) := (blk_cell BK184.out 0).trans rfl; have hcz40_1 : w37.cell? ⟨gb184, 1, none⟩ = some (.bool false) := (blk_cell BK184.out 1).trans rfl; have hcz40_2 : w37.cell? ⟨gb184, 2, none⟩ = some (.int .u8 0) := (blk_cell BK184.out 2).trans rfl; have hfz40_0 := blk_frozen BK184.out 0; have hfz40_1 := blk_frozen BK184.out 1; have hfz40_2 := blk_frozen BK184.out 2))
     refine bodyPost_ret (results_ct rfl _ _ gb184 91 #[.int .i64 (wrap64 (a0_0 - 1)), .bool true, .int .u8 a1] (0, 0) _ rfl (by (with_reducible repeat (first | refine blk_drewN ?_ _ | refine blk_drew ?_ | refine blk_alloc ?_ _)); refine blk_put (cs := #[.int .i64 (wrap64 (a0_0 - 1)), .bool true, .int .u8 0]) ?_ 2 _ rfl; (with_reducible repeat (first | refine blk_drewN ?_ _ | refine blk_drew ?_ | refine blk_alloc ?_ _)); refine blk_put (cs := #[.int .i64 (wrap64 (a0_0 - 1)), .bool false, .int .u8 0]) ?_ 1 _ rfl; (with_reducible repeat (first | refine blk_drewN ?_ _ | refine blk_drew ?_ | refine blk_alloc ?_ _)); refine blk_put (cs := #[.int .i64 0, .bool false, .int .u8 0]) ?_ 0 _ rfl; (with_reducible repeat (first | refine blk_drewN ?_ _ | refine blk_drew ?_ | refine blk_alloc ?_ _)); refine blk_far ?_ NB184_183.out _; (with_reducible repeat (first | refine blk_drewN ?_ _ | refine blk_drew ?_ | refine blk_alloc ?_ _)); refine blk_far ?_ NB184_183.out _; (with_reducible repeat (first | refine blk_drewN ?_ _ | refine blk_drew ?_ | refine blk_alloc ?_ _)); refine blk_far ?_ NB184_183.out _; (with_reducible repeat (first | refine blk_drewN ?_ _ | refine blk_drew ?_ | refine blk_alloc ?_ _)); exact BK184.out) Try.underlying91 rfl zz23) rfl ?_
     exact ⟨zz2, zz43⟩
   ·
    rw [if_neg c29] at H
    have c29b0 : decide (0 < a1) = false := decide_eq_false c29
    clear c29
    simp only [Option.some.injEq, Prod.mk.injEq] at H
    obtain ⟨rfl, rfl, rfl, rfl⟩ := H
    go_enter Try.func103, Try.ntmps103
    go_wp2_with (first | ((with_reducible refine gate_dst (N := 2) rfl ?_); refine zzbx (N := 2) (cs := #[.int .i64 a0_0, .bool false, .int .u8 a0_2]) (t := 91) ?_; intro gb183 hg w41 hbox hb; have n0_ := Aside0.mk (below_step zz0 hb); have n1_ := Aside0.mk (hbox); have n2_ := Aside0.mk ((zz12 : w.heap.size ≤ gb183)); have n3_ := Aside0.mk ((zz12 : w.heap.size ≤ gb183)); clear HB; have HB := n0_; have BK183 := n1_; have GW183 := n2_; have GE183 := n3_; clear n0_ n1_ n2_ n3_; clear hb hbox hg) | ((with_reducible refine gate_dst (N := 4) rfl ?_); refine zzbx (N := 4) (cs := #[.int .i64 0, .bool false, .int .u8 0]) (t := 91) ?_; intro gb184 hg w42 hbox hb; have n0_ := Aside0.mk (blk_below (g := gb183) (o := .cells #[.int .i64 a0_0, .bool false, .int .u8 a0_2] 91 (0, 0)) zz17 hb); have n1_ := Aside0.mk (below_step zz6 hb); have n2_ := Aside0.mk (hbox); have n3_ := Aside0.mk ((zz64 : w.heap.size ≤ gb184)); have n4_ := Aside0.mk ((zz64 : w.heap.size ≤ gb184)); have n5_ := Aside0.mk ((zz66 : gb183 ≠ gb184)); have n6_ := Aside0.mk ((zz67 : gb184 ≠ gb183)); clear BK183; clear HB; have BK183 := n0_; have HB := n1_; have BK184 := n2_; have GW184 := n3_; have GE184 := n4_; have NB183_184 := n5_; have NB184_183 := n6_; clear n0_ n1_ n2_ n3_ n4_ n5_ n6_; clear hb hbox hg; have hnb43 := NB183_184.out; have hnc43 := NB184_183.out; have hcz44_0 : w42.cell? ⟨gb183, 0, none⟩ = some (.int .i64 a0_0) := (blk_cell BK183.out 0).trans rfl; have hcz44_1 : w42.cell? ⟨gb183, 1, none⟩ = some (.bool false) := (blk_cell BK183.out 1).trans rfl; have hcz44_2 : w42.cell? ⟨gb183, 2, none⟩ = some (.int .u8 a0_2) := (blk_cell BK183.out 2).trans rfl; have hfz44_0 := blk_frozen BK183.out 0; have hfz44_1 := blk_frozen BK183.out 1; have hfz44_2 := blk_frozen BK183.out 2; have hcz45_0 : w42.cell? ⟨gb184, 0, none⟩ = some (.int .i64 0) := (blk_cell BK184.out 0).trans rfl; have hcz45_1 : w42.cell? ⟨gb184, 1, none⟩ = some (.bool false) := (blk_cell BK184.out 1).trans rfl; have hcz45_2 : w42.cell? ⟨gb184, 2, none⟩ = some (.int .u8 0) := (blk_cell BK184.out 2).trans rfl; have hfz45_0 := blk_frozen BK184.out 0; have hfz45_1 := blk_frozen BK184.out 1; have hfz45_2 := blk_frozen BK184.out 2))
    refine bodyPost_ret (results_ct rfl _ _ gb184 91 #[.int .i64 (wrap64 (a0_0 - 1)), .bool true, .int .u8 a1] (0, 0) _ rfl (by (with_reducible repeat (first | refine blk_drewN ?_ _ | refine blk_drew ?_ | refine blk_alloc ?_ _)); refine blk_put (cs := #[.int .i64 (wrap64 (a0_0 - 1)), .bool true, .int .u8 0]) ?_ 2 _ rfl; (with_reducible repeat (first | refine blk_drewN ?_ _ | refine blk_drew ?_ | refine blk_alloc ?_ _)); refine blk_put (cs := #[.int .i64 (wrap64 (a0_0 - 1)), .bool false, .int .u8 0]) ?_ 1 _ rfl; (with_reducible repeat (first | refine blk_drewN ?_ _ | refine blk_drew ?_ | refine blk_alloc ?_ _)); refine blk_put (cs := #[.int .i64 0, .bool false, .int .u8 0]) ?_ 0 _ rfl; (with_reducible repeat (first | refine blk_drewN ?_ _ | refine blk_drew ?_ | refine blk_alloc ?_ _)); refine blk_far ?_ NB184_183.out _; (with_reducible repeat (first | refine blk_drewN ?_ _ | refine blk_drew ?_ | refine blk_alloc ?_ _)); refine blk_far ?_ NB184_183.out _; (with_reducible repeat (first | refine blk_drewN ?_ _ | refine blk_drew ?_ | refine blk_alloc ?_ _)); refine blk_far ?_ NB184_183.out _; (with_reducible repeat (first | refine blk_drewN ?_ _ | refine blk_drew ?_ | refine blk_alloc ?_ _)); exact BK184.out) Try.underlying91 rfl zz23) rfl ?_
    exact ⟨zz2, zz43⟩
def when_Start.f (a0 : Int) (a1 : Int) : Option (ByteArray × Int × Bool × Bool) := if a0 = 23 then (if a1 = 13 then (if a0 = 24 then (if a1 = 15 then (some ((⟨#[]⟩ : ByteArray), a1, true, true)) else (some ((⟨#[]⟩ : ByteArray), 0, false, false))) else (some ((⟨#[]⟩ : ByteArray), a1, true, true))) else (some ((⟨#[]⟩ : ByteArray), 0, false, false))) else (if a0 = 24 then (if a1 = 15 then (some ((⟨#[]⟩ : ByteArray), a1, false, true)) else (some ((⟨#[]⟩ : ByteArray), 0, false, false))) else (some ((⟨#[]⟩ : ByteArray), 0, false, false)))
set_option maxHeartbeats 8000000 in
set_option maxRecDepth 100000 in
theorem when_Start.calls (a0 : Int) (a1 : Int) (r1 : ByteArray) (r2 : Int) (r3 : Bool) (r4 : Bool) (w : World) (h : when_Start.f a0 a1 = some (r1, r2, r3, r4)) :
 Calls Try.prog 52 #[.int .i64 a0, .int .i64 a1] w fun e w' => e = .returned (.tuple #[.agg #[.string r1, .int .i64 r2, .bool r3], .bool r4]) ∧ Below w.heap.size w w' := by
 have hu96 := Try.underlying96
 have HB := Aside0.mk (Below.refl w.heap.size w)
 have H : (if a0 = 23 then (if a1 = 13 then (if a0 = 24 then (if a1 = 15 then (some ((⟨#[]⟩ : ByteArray), a1, true, true)) else (some ((⟨#[]⟩ : ByteArray), 0, false, false))) else (some ((⟨#[]⟩ : ByteArray), a1, true, true))) else (some ((⟨#[]⟩ : ByteArray), 0, false, false))) else (if a0 = 24 then (if a1 = 15 then (some ((⟨#[]⟩ : ByteArray), a1, false, true)) else (some ((⟨#[]⟩ : ByteArray), 0, false, false))) else (some ((⟨#[]⟩ : ByteArray), 0, false, false)))) = some (r1, r2, r3, r4) := h
 clear h
 by_cases c3 : a0 = 23
 ·
  rw [if_pos c3] at H
  have c3b0 : (a0 == 23) = true := beq_iff_eq.mpr c3
  have c3b1 : (a0 != 23) = false := bne_eq_false_iff_eq.mpr c3
  clear c3
  by_cases c4 : a1 = 13
  ·
   rw [if_pos c4] at H
   have c4b0 : (a1 == 13) = true := beq_iff_eq.mpr c4
   have c4b1 : (a1 != 13) = false := bne_eq_false_iff_eq.mpr c4
   clear c4
   by_cases c5 : a0 = 24
   ·
    rw [if_pos c5] at H
    have c5b0 : (a0 == 24) = true := beq_iff_eq.mpr c5
    have c5b1 : (a0 != 24) = false := bne_eq_false_iff_eq.mpr c5
    clear c5
    by_cases c6 : a1 = 15
    ·
     rw [if_pos c6] at H
     have c6b0 : (a1 == 15) = true := beq_iff_eq.mpr c6
     have c6b1 : (a1 != 15) = false := bne_eq_false_iff_eq.mpr c6
     clear c6
     simp only [Option.some.injEq, Prod.mk.injEq] at H
     obtain ⟨rfl, rfl, rfl, rfl⟩ := H
     go_enter Try.func52, Try.ntmps52
     go_wp2_with (first | ((with_reducible refine gate_dst (N := 4) rfl ?_); refine zzbx (N := 4) (cs := #[.string (⟨#[]⟩ : ByteArray), .int .i64 0, .bool false]) (t := 96) ?_; intro gb185 hg w7 hbox hb; have n0_ := Aside0.mk (below_step zz0 hb); have n1_ := Aside0.mk (hbox); have n2_ := Aside0.mk ((zz12 : w.heap.size ≤ gb185)); have n3_ := Aside0.mk ((zz12 : w.heap.size ≤ gb185)); clear HB; have HB := n0_; have BK185 := n1_; have GW185 := n2_; have GE185 := n3_; clear n0_ n1_ n2_ n3_; clear hb hbox hg; have hcz8_0 : w7.cell? ⟨gb185, 0, none⟩ = some (.string (⟨#[]⟩ : ByteArray)) := (blk_cell BK185.out 0).trans rfl; have hcz8_1 : w7.cell? ⟨gb185, 1, none⟩ = some (.int .i64 0) := (blk_cell BK185.out 1).trans rfl; have hcz8_2 : w7.cell? ⟨gb185, 2, none⟩ = some (.bool false) := (blk_cell BK185.out 2).trans rfl; have hfz8_0 := blk_frozen BK185.out 0; have hfz8_1 := blk_frozen BK185.out 1; have hfz8_2 := blk_frozen BK185.out 2))
     refine bodyPost_ret (results_ct rfl _ _ gb185 96 #[.string (⟨#[]⟩ : ByteArray), .int .i64 a1, .bool true] (0, 0) _ rfl zz38 Try.underlying96 rfl zz23) rfl ?_
     exact ⟨zz2, zz48⟩
    ·
     rw [if_neg c6] at H
     have c6b0 : (a1 == 15) = false := beq_eq_false_iff_ne.mpr c6
     have c6b1 : (a1 != 15) = true := bne_iff_ne.mpr c6
     simp only [Option.some.injEq, Prod.mk.injEq] at H
     obtain ⟨rfl, rfl, rfl, rfl⟩ := H
     go_enter Try.func52, Try.ntmps52
     go_wp2_with (first | ((with_reducible refine gate_dst (N := 4) rfl ?_); refine zzbx (N := 4) (cs := #[.string (⟨#[]⟩ : ByteArray), .int .i64 0, .bool false]) (t := 96) ?_; intro gb185 hg w9 hbox hb; have n0_ := Aside0.mk (below_step zz0 hb); have n1_ := Aside0.mk (hbox); have n2_ := Aside0.mk ((zz12 : w.heap.size ≤ gb185)); have n3_ := Aside0.mk ((zz12 : w.heap.size ≤ gb185)); clear HB; have HB := n0_; have BK185 := n1_; have GW185 := n2_; have GE185 := n3_; clear n0_ n1_ n2_ n3_; clear hb hbox hg; have hcz10_0 : w9.cell? ⟨gb185, 0, none⟩ = some (.string (⟨#[]⟩ : ByteArray)) := (blk_cell BK185.out 0).trans rfl; have hcz10_1 : w9.cell? ⟨gb185, 1, none⟩ = some (.int .i64 0) := (blk_cell BK185.out 1).trans rfl; have hcz10_2 : w9.cell? ⟨gb185, 2, none⟩ = some (.bool false) := (blk_cell BK185.out 2).trans rfl; have hfz10_0 := blk_frozen BK185.out 0; have hfz10_1 := blk_frozen BK185.out 1; have hfz10_2 := blk_frozen BK185.out 2))
     refine bodyPost_ret (results_ct rfl _ _ gb185 96 #[.string (⟨#[]⟩ : ByteArray), .int .i64 0, .bool false] (0, 0) _ rfl zz20 Try.underlying96 rfl zz23) rfl ?_
     exact ⟨zz2, zz48⟩
   ·
    rw [if_neg c5] at H
    have c5b0 : (a0 == 24) = false := beq_eq_false_iff_ne.mpr c5
    have c5b1 : (a0 != 24) = true := bne_iff_ne.mpr c5
    simp only [Option.some.injEq, Prod.mk.injEq] at H
    obtain ⟨rfl, rfl, rfl, rfl⟩ := H
    go_enter Try.func52, Try.ntmps52
    go_wp2_with (first | ((with_reducible refine gate_dst (N := 4) rfl ?_); refine zzbx (N := 4) (cs := #[.string (⟨#[]⟩ : ByteArray), .int .i64 0, .bool false]) (t := 96) ?_; intro gb185 hg w11 hbox hb; have n0_ := Aside0.mk (below_step zz0 hb); have n1_ := Aside0.mk (hbox); have n2_ := Aside0.mk ((zz12 : w.heap.size ≤ gb185)); have n3_ := Aside0.mk ((zz12 : w.heap.size ≤ gb185)); clear HB; have HB := n0_; have BK185 := n1_; have GW185 := n2_; have GE185 := n3_; clear n0_ n1_ n2_ n3_; clear hb hbox hg; have hcz12_0 : w11.cell? ⟨gb185, 0, none⟩ = some (.string (⟨#[]⟩ : ByteArray)) := (blk_cell BK185.out 0).trans rfl; have hcz12_1 : w11.cell? ⟨gb185, 1, none⟩ = some (.int .i64 0) := (blk_cell BK185.out 1).trans rfl; have hcz12_2 : w11.cell? ⟨gb185, 2, none⟩ = some (.bool false) := (blk_cell BK185.out 2).trans rfl; have hfz12_0 := blk_frozen BK185.out 0; have hfz12_1 := blk_frozen BK185.out 1; have hfz12_2 := blk_frozen BK185.out 2))
    refine bodyPost_ret (results_ct rfl _ _ gb185 96 #[.string (⟨#[]⟩ : ByteArray), .int .i64 a1, .bool true] (0, 0) _ rfl zz38 Try.underlying96 rfl zz23) rfl ?_
    exact ⟨zz2, zz48⟩
  ·
   rw [if_neg c4] at H
   have c4b0 : (a1 == 13) = false := beq_eq_false_iff_ne.mpr c4
   have c4b1 : (a1 != 13) = true := bne_iff_ne.mpr c4
   simp only [Option.some.injEq, Prod.mk.injEq] at H
   obtain ⟨rfl, rfl, rfl, rfl⟩ := H
   go_enter Try.func52, Try.ntmps52
   go_wp2_with (first | ((with_reducible refine gate_dst (N := 4) rfl ?_); refine zzbx (N := 4) (cs := #[.string (⟨#[]⟩ : ByteArray), .int .i64 0, .bool false]) (t := 96) ?_; intro gb185 hg w13 hbox hb; have n0_ := Aside0.mk (below_step zz0 hb); have n1_ := Aside0.mk (hbox); have n2_ := Aside0.mk ((zz12 : w.heap.size ≤ gb185)); have n3_ := Aside0.mk ((zz12 : w.heap.size ≤ gb185)); clear HB; have HB := n0_; have BK185 := n1_; have GW185 := n2_; have GE185 := n3_; clear n0_ n1_ n2_ n3_; clear hb hbox hg; have hcz14_0 : w13.cell? ⟨gb185, 0, none⟩ = some (.string (⟨#[]⟩ : ByteArray)) := (blk_cell BK185.out 0).trans rfl; have hcz14_1 : w13.cell? ⟨gb185, 1, none⟩ = some (.int .i64 0) := (blk_cell BK185.out 1).trans rfl; have hcz14_2 : w13.cell? ⟨gb185, 2, none⟩ = some (.bool false) := (blk_cell BK185.out 2).trans rfl; have hfz14_0 := blk_frozen BK185.out 0; have hfz14_1 := blk_frozen BK185.out 1; have hfz14_2 := blk_frozen BK185.out 2))
   refine bodyPost_ret (results_ct rfl _ _ gb185 96 #[.string (⟨#[]⟩ : ByteArray), .int .i64 0, .bool false] (0, 0) _ rfl zz20 Try.underlying96 rfl zz23) rfl ?_
   exact ⟨zz2, zz48⟩
 ·
  rw [if_neg c3] at H
  have c3b0 : (a0 == 23) = false := beq_eq_false_iff_ne.mpr c3
  have c3b1 : (a0 != 23) = true := bne_iff_ne.mpr c3
  by_cases c15 : a0 = 24
  ·
   rw [if_pos c15] at H
   have c15b0 : (a0 == 24) = true := beq_iff_eq.mpr c15
   have c15b1 : (a0 != 24) = false := bne_eq_false_iff_eq.mpr c15
   clear c15
   by_cases c16 : a1 = 15
   ·
    rw [if_pos c16] at H
    have c16b0 : (a1 == 15) = true := beq_iff_eq.mpr c16
    have c16b1 : (a1 != 15) = false := bne_eq_false_iff_eq.mpr c16
    clear c16
    simp only [Option.some.injEq, Prod.mk.injEq] at H
    obtain ⟨rfl, rfl, rfl, rfl⟩ := H
    go_enter Try.func52, Try.ntmps52
    go_wp2_with (first | ((with_reducible refine gate_dst (N := 4) rfl ?_); refine zzbx (N := 4) (cs := #[.string (⟨#[]⟩ : ByteArray), .int .i64 0, .bool false]) (t := 96) ?_; intro gb185 hg w17 hbox hb; have n0_ := Aside0.mk (below_step zz0 hb); have n1_ := Aside0.mk (hbox); have n2_ := Aside0.mk ((zz12 : w.heap.size ≤ gb185)); have n3_ := Aside0.mk ((zz12 : w.heap.size ≤ gb185)); clear HB; have HB := n0_; have BK185 := n1_; have GW185 := n2_; have GE185 := n3_; clear n0_ n1_ n2_ n3_; clear hb hbox hg; have hcz18_0 : w17.cell? ⟨gb185, 0, none⟩ = some (.string (⟨#[]⟩ : ByteArray)) := (blk_cell BK185.out 0).trans rfl; have hcz18_1 : w17.cell? ⟨gb185, 1, none⟩ = some (.int .i64 0) := (blk_cell BK185.out 1).trans rfl; have hcz18_2 : w17.cell? ⟨gb185, 2, none⟩ = some (.bool false) := (blk_cell BK185.out 2).trans rfl; have hfz18_0 := blk_frozen BK185.out 0; have hfz18_1 := blk_frozen BK185.out 1; have hfz18_2 := blk_frozen BK185.out 2))
    refine bodyPost_ret (results_ct rfl _ _ gb185 96 #[.string (⟨#[]⟩ : ByteArray), .int .i64 a1, .bool false] (0, 0) _ rfl zz38 Try.underlying96 rfl zz23) rfl ?_
    exact ⟨zz2, zz48⟩
   ·
    rw [if_neg c16] at H
    have c16b0 : (a1 == 15) = false := beq_eq_false_iff_ne.mpr c16
    have c16b1 : (a1 != 15) = true := bne_iff_ne.mpr c16
    simp only [Option.some.injEq, Prod.mk.injEq] at H
    obtain ⟨rfl, rfl, rfl, rfl⟩ := H
    go_enter Try.func52, Try.ntmps52
    go_wp2_with (first | ((with_reducible refine gate_dst (N := 4) rfl ?_); refine zzbx (N := 4) (cs := #[.string (⟨#[]⟩ : ByteArray), .int .i64 0, .bool false]) (t := 96) ?_; intro gb185 hg w19 hbox hb; have n0_ := Aside0.mk (below_step zz0 hb); have n1_ := Aside0.mk (hbox); have n2_ := Aside0.mk ((zz12 : w.heap.size ≤ gb185)); have n3_ := Aside0.mk ((zz12 : w.heap.size ≤ gb185)); clear HB; have HB := n0_; have BK185 := n1_; have GW185 := n2_; have GE185 := n3_; clear n0_ n1_ n2_ n3_; clear hb hbox hg; have hcz20_0 : w19.cell? ⟨gb185, 0, none⟩ = some (.string (⟨#[]⟩ : ByteArray)) := (blk_cell BK185.out 0).trans rfl; have hcz20_1 : w19.cell? ⟨gb185, 1, none⟩ = some (.int .i64 0) := (blk_cell BK185.out 1).trans rfl; have hcz20_2 : w19.cell? ⟨gb185, 2, none⟩ = some (.bool false) := (blk_cell BK185.out 2).trans rfl; have hfz20_0 := blk_frozen BK185.out 0; have hfz20_1 := blk_frozen BK185.out 1; have hfz20_2 := blk_frozen BK185.out 2))
    refine bodyPost_ret (results_ct rfl _ _ gb185 96 #[.string (⟨#[]⟩ : ByteArray), .int .i64 0, .bool false] (0, 0) _ rfl zz20 Try.underlying96 rfl zz23) rfl ?_
    exact ⟨zz2, zz48⟩
  ·
   rw [if_neg c15] at H
   have c15b0 : (a0 == 24) = false := beq_eq_false_iff_ne.mpr c15
   have c15b1 : (a0 != 24) = true := bne_iff_ne.mpr c15
   simp only [Option.some.injEq, Prod.mk.injEq] at H
   obtain ⟨rfl, rfl, rfl, rfl⟩ := H
   go_enter Try.func52, Try.ntmps52
   go_wp2_with (first | ((with_reducible refine gate_dst (N := 4) rfl ?_); refine zzbx (N := 4) (cs := #[.string (⟨#[]⟩ : ByteArray), .int .i64 0, .bool false]) (t := 96) ?_; intro gb185 hg w21 hbox hb; have n0_ := Aside0.mk (below_step zz0 hb); have n1_ := Aside0.mk (hbox); have n2_ := Aside0.mk ((zz12 : w.heap.size ≤ gb185)); have n3_ := Aside0.mk ((zz12 : w.heap.size ≤ gb185)); clear HB; have HB := n0_; have BK185 := n1_; have GW185 := n2_; have GE185 := n3_; clear n0_ n1_ n2_ n3_; clear hb hbox hg; have hcz22_0 : w21.cell? ⟨gb185, 0, none⟩ = some (.string (⟨#[]⟩ : ByteArray)) := (blk_cell BK185.out 0).trans rfl; have hcz22_1 : w21.cell? ⟨gb185, 1, none⟩ = some (.int .i64 0) := (blk_cell BK185.out 1).trans rfl; have hcz22_2 : w21.cell? ⟨gb185, 2, none⟩ = some (.bool false) := (blk_cell BK185.out 2).trans rfl; have hfz22_0 := blk_frozen BK185.out 0; have hfz22_1 := blk_frozen BK185.out 1; have hfz22_2 := blk_frozen BK185.out 2))
   refine bodyPost_ret (results_ct rfl _ _ gb185 96 #[.string (⟨#[]⟩ : ByteArray), .int .i64 0, .bool false] (0, 0) _ rfl zz20 Try.underlying96 rfl zz23) rfl ?_
   exact ⟨zz2, zz48⟩
end Go.Proofs.Ytpfconocipmcjaa.PC
namespace Go.Proofs.Ytpfconocipmcjaa.PC
open Go.RowKit Go.Proofs.YtpfconocipmcjaaW.PrintWords Go.Proofs.YtpfconocipmcjaaW.PrintLast Go.Proofs.YtpfconocipmcjaaW.PrintMore
attribute [local go_sem] max2_int min2_int max_two min_two max_three min_three max_four min_four
set_option linter.unusedVariables false
set_option linter.unusedSimpArgs false
def when_number.l0 : Nat → ByteArray → Int → Int → Int → Option (Int)
 | 0, _, _, _, _ => none
 | k + 1, x0, x3, x6, x7 => if x7 < x6 then (if 0 ≤ x7 then (if x7 < (x0.size : Int) then (when_number.l0 k x0 (wrap64 ((wrap64 (10 * x3)) + (((bt x0 x7) - 48) % 256))) x6 (wrap64 (x7 + 1))) else (none)) else (none)) else (some x3)
def when_number.f (k : Nat) (a0 : ByteArray) : Option (Int) := when_number.l0 k a0 0 (a0.size : Int) 0
set_option maxHeartbeats 8000000 in
set_option maxRecDepth 100000 in
theorem when_number.calls (k : Nat) (a0 : ByteArray) (r : Int) (w : World) (h : when_number.f k a0 = some r) :
 Calls Try.prog 108 #[.string a0] w fun e w' => e = .returned (.int .i64 r) ∧ Drawn0 w w' := by
 have H : (when_number.l0 k a0 0 (a0.size : Int) 0) = some r := h
 clear h
 have H' := Aside0.mk H
 clear H
 go_enter Try.func108, Try.ntmps108
 go_wp2
 go_loopg [3, 7] k (fun kq v3 v7 w' => ∃ (x3_1 : Int) (x7_1 : Int), v3 = .int .i64 x3_1 ∧ v7 = .int .i64 x7_1 ∧ Aside0 (when_number.l0 kq a0 x3_1 (a0.size : Int) x7_1 = some r) ∧ Aside0 (kq ≤ k) ∧ Drawn0 w w')
 case atStart => exact ⟨(0), (0), zz1, zz1, H', ⟨Nat.le_refl _⟩, zz15⟩
 case round =>
  clear H'
  try clear c1
  obtain ⟨x3_1, x7_1, rfl, rfl, HA, HK1, ⟨m1, rfl⟩⟩ := hrel
  cases gk with
  | zero => exact absurd HA.out (by simp [when_number.l0])
  | succ k1 =>
    have H := HA.out
    clear HA
    simp only [when_number.l0] at H
    by_cases c2 : x7_1 < (a0.size : Int)
    ·
     rw [if_pos c2] at H
     have c2b0 : decide (x7_1 < (a0.size : Int)) = true := decide_eq_true c2
     clear c2
     by_cases c3 : 0 ≤ x7_1
     ·
      rw [if_pos c3] at H
      have c3b0 : decide (0 ≤ x7_1) = true := decide_eq_true c3
      clear c3
      by_cases c4 : x7_1 < (a0.size : Int)
      ·
       rw [if_pos c4] at H
       have c4b0 : decide (x7_1 < (a0.size : Int)) = true := decide_eq_true c4
       clear c4
       have H' := Aside0.mk H
       clear H
       have p5 : 0 ≤ (x7_1 : Int) := of_decide_eq_true zz8
       have q5 : x7_1 < (a0.size : Int) := of_decide_eq_true zz8
       have hx5 := bt_at a0 x7_1
       replace p5 := eq_true p5
       replace q5 := eq_true q5
       go_wp2
       go_roundg k1
       case measure => have := HK1.out; omega
       case rel => exact ⟨(wrap64 ((wrap64 (10 * x3_1)) + (((bt a0 x7_1) - 48) % 256))), (wrap64 (x7_1 + 1)), zz1, zz1, H', ⟨by have := HK1.out; omega⟩, zz15⟩
      ·
       rw [if_neg c4] at H
       exact absurd H zz56
     ·
      rw [if_neg c3] at H
      exact absurd H zz56
    ·
     rw [if_neg c2] at H
     have c2b0 : decide (x7_1 < (a0.size : Int)) = false := decide_eq_false c2
     clear c2
     obtain rfl := Option.some.inj H
     go_wp2
     go_ret
     exact ⟨zz1, zz15⟩
def when_Days.f (a0 : Int) (a1 : Int) : Option (Int) := some (Days.days a0 a1)
theorem when_Days.calls (a0 : Int) (a1 : Int) (r : Int) (w : World) (h : when_Days.f a0 a1 = some r) :
 Calls Try.prog 109 #[.int .i64 a0, .int .i64 a1] w fun e w' => e = .returned (.int .i64 r) ∧ Drawn0 w w' := by
 unfold when_Days.f at h
 obtain rfl := Option.some.inj h
 exact (Days.days_any a0 a1 w).mono fun e w' ⟨he, hw⟩ => ⟨he, hw ▸ Drawn0.refl w⟩
def when_span.f (k : Nat) (a0 : ByteArray) (a1 : Int) : Option (Int × Int) := if a1 = 4 then (some (1, 12)) else (if a1 = 6 then (if 0 ≤ 4 then (if 4 ≤ (a0.size : Int) then ((when_number.f k (a0.extract 0 4)).bind fun t186 => (if 4 ≤ 6 then (if 6 ≤ (a0.size : Int) then ((when_number.f k (a0.extract 4 6)).bind fun t187 => ((when_Days.f t186 t187).bind fun t188 => (some (1, t188)))) else (none)) else (none))) else (none)) else (none)) else (if a1 = 8 then (some (0, 23)) else (some (0, 59))))
set_option maxHeartbeats 8000000 in
set_option maxRecDepth 100000 in
theorem when_span.calls (k : Nat) (a0 : ByteArray) (a1 : Int) (r1 : Int) (r2 : Int) (w : World) (h : when_span.f k a0 a1 = some (r1, r2)) :
 Calls Try.prog 107 #[.string a0, .int .i64 a1] w fun e w' => e = .returned (.tuple #[.int .i64 r1, .int .i64 r2]) ∧ Drawn0 w w' := by
 have H : (if a1 = 4 then (some (1, 12)) else (if a1 = 6 then (if 0 ≤ 4 then (if 4 ≤ (a0.size : Int) then ((when_number.f k (a0.extract 0 4)).bind fun t186 => (if 4 ≤ 6 then (if 6 ≤ (a0.size : Int) then ((when_number.f k (a0.extract 4 6)).bind fun t187 => ((when_Days.f t186 t187).bind fun t188 => (some (1, t188)))) else (none)) else (none))) else (none)) else (none)) else (if a1 = 8 then (some (0, 23)) else (some (0, 59))))) = some (r1, r2) := h
 clear h
 by_cases c3 : a1 = 4
 ·
  rw [if_pos c3] at H
  have c3b0 : (a1 == 4) = true := beq_iff_eq.mpr c3
  have c3b1 : (a1 != 4) = false := bne_eq_false_iff_eq.mpr c3
  clear c3
  simp only [Option.some.injEq, Prod.mk.injEq] at H
  obtain ⟨rfl, rfl⟩ := H
  go_enter Try.func107, Try.ntmps107
  go_wp2
  repeat (go_quiet (fail); try go_wp2)
  go_ret2
  exact ⟨zz1, zz15⟩
 ·
  rw [if_neg c3] at H
  have c3b0 : (a1 == 4) = false := beq_eq_false_iff_ne.mpr c3
  have c3b1 : (a1 != 4) = true := bne_iff_ne.mpr c3
  by_cases c4 : a1 = 6
  ·
   rw [if_pos c4] at H
   have c4b0 : (a1 == 6) = true := beq_iff_eq.mpr c4
   have c4b1 : (a1 != 6) = false := bne_eq_false_iff_eq.mpr c4
   clear c4
   by_cases c5 : 0 ≤ 4
   ·
    rw [if_pos c5] at H
    have c5b0 := eq_true c5
    have c5b1 : decide (0 ≤ 4) = true := decide_eq_true c5
    clear c5
    by_cases c6 : 4 ≤ (a0.size : Int)
    ·
     rw [if_pos c6] at H
     have c6b0 := eq_true c6
     have c6b1 : decide (4 ≤ (a0.size : Int)) = true := decide_eq_true c6
     clear c6
     replace H := Option.bind_eq_some_iff.mp H
     obtain ⟨t186, A70, H⟩ := H
     replace H : (if 4 ≤ 6 then (if 6 ≤ (a0.size : Int) then ((when_number.f k (a0.extract 4 6)).bind fun t187 => ((when_Days.f t186 t187).bind fun t188 => (some (1, t188)))) else (none)) else (none)) = some (r1, r2) := H
     have A7 := Aside0.mk A70
     clear A70
     by_cases c8 : 4 ≤ 6
     ·
      rw [if_pos c8] at H
      have c8b0 := eq_true c8
      have c8b1 : decide (4 ≤ 6) = true := decide_eq_true c8
      clear c8
      by_cases c9 : 6 ≤ (a0.size : Int)
      ·
       rw [if_pos c9] at H
       have c9b0 := eq_true c9
       have c9b1 : decide (6 ≤ (a0.size : Int)) = true := decide_eq_true c9
       clear c9
       replace H := Option.bind_eq_some_iff.mp H
       obtain ⟨t187, A100, H⟩ := H
       replace H : ((when_Days.f t186 t187).bind fun t188 => (some (1, t188))) = some (r1, r2) := H
       have A10 := Aside0.mk A100
       clear A100
       replace H := Option.bind_eq_some_iff.mp H
       obtain ⟨t188, A110, H⟩ := H
       replace H : (some (1, t188)) = some (r1, r2) := H
       have A11 := Aside0.mk A110
       clear A110
       simp only [Option.some.injEq, Prod.mk.injEq] at H
       obtain ⟨rfl, rfl⟩ := H
       go_enter Try.func107, Try.ntmps107
       go_wp2_with (first | (go_at_call 108; (with_reducible refine (when_number.calls k (a0.extract 0 4) t186 _ A7.out).mono ?_); rintro e w' ⟨rfl, ⟨nd, rfl⟩⟩; (try first | exact ⟨rfl, _, World.drewN_drewN _ _ _⟩ | exact ⟨rfl, _, Eq.trans (World.drewN_drewN _ _ _) (congrArg (World.drewN _) (Nat.add_assoc _ _ _))⟩)) | (go_at_call 108; (with_reducible refine (when_number.calls k (a0.extract 4 6) t187 _ A10.out).mono ?_); rintro e w' ⟨rfl, ⟨nd, rfl⟩⟩; (try first | exact ⟨rfl, _, World.drewN_drewN _ _ _⟩ | exact ⟨rfl, _, Eq.trans (World.drewN_drewN _ _ _) (congrArg (World.drewN _) (Nat.add_assoc _ _ _))⟩)) | (go_at_call 109; (with_reducible refine (when_Days.calls t186 t187 t188 _ A11.out).mono ?_); rintro e w' ⟨rfl, ⟨nd, rfl⟩⟩; (try first | exact ⟨rfl, _, World.drewN_drewN _ _ _⟩ | exact ⟨rfl, _, Eq.trans (World.drewN_drewN _ _ _) (congrArg (World.drewN _) (Nat.add_assoc _ _ _))⟩)))
       repeat (go_quiet (first | (go_at_call 108; (with_reducible refine (when_number.calls k (a0.extract 0 4) t186 _ A7.out).mono ?_); rintro e w' ⟨rfl, ⟨nd, rfl⟩⟩; (try first | exact ⟨rfl, _, World.drewN_drewN _ _ _⟩ | exact ⟨rfl, _, Eq.trans (World.drewN_drewN _ _ _) (congrArg (World.drewN _) (Nat.add_assoc _ _ _))⟩)) | (go_at_call 108; (with_reducible refine (when_number.calls k (a0.extract 4 6) t187 _ A10.out).mono ?_); rintro e w' ⟨rfl, ⟨nd, rfl⟩⟩; (try first | exact ⟨rfl, _, World.drewN_drewN _ _ _⟩ | exact ⟨rfl, _, Eq.trans (World.drewN_drewN _ _ _) (congrArg (World.drewN _) (Nat.add_assoc _ _ _))⟩)) | (go_at_call 109; (with_reducible refine (when_Days.calls t186 t187 t188 _ A11.out).mono ?_); rintro e w' ⟨rfl, ⟨nd, rfl⟩⟩; (try first | exact ⟨rfl, _, World.drewN_drewN _ _ _⟩ | exact ⟨rfl, _, Eq.trans (World.drewN_drewN _ _ _) (congrArg (World.drewN _) (Nat.add_assoc _ _ _))⟩))); try go_wp2_with (first | (go_at_call 108; (with_reducible refine (when_number.calls k (a0.extract 0 4) t186 _ A7.out).mono ?_); rintro e w' ⟨rfl, ⟨nd, rfl⟩⟩; (try first | exact ⟨rfl, _, World.drewN_drewN _ _ _⟩ | exact ⟨rfl, _, Eq.trans (World.drewN_drewN _ _ _) (congrArg (World.drewN _) (Nat.add_assoc _ _ _))⟩)) | (go_at_call 108; (with_reducible refine (when_number.calls k (a0.extract 4 6) t187 _ A10.out).mono ?_); rintro e w' ⟨rfl, ⟨nd, rfl⟩⟩; (try first | exact ⟨rfl, _, World.drewN_drewN _ _ _⟩ | exact ⟨rfl, _, Eq.trans (World.drewN_drewN _ _ _) (congrArg (World.drewN _) (Nat.add_assoc _ _ _))⟩)) | (go_at_call 109; (with_reducible refine (when_Days.calls t186 t187 t188 _ A11.out).mono ?_); rintro e w' ⟨rfl, ⟨nd, rfl⟩⟩; (try first | exact ⟨rfl, _, World.drewN_drewN _ _ _⟩ | exact ⟨rfl, _, Eq.trans (World.drewN_drewN _ _ _) (congrArg (World.drewN _) (Nat.add_assoc _ _ _))⟩))))
       go_ret2
       exact ⟨zz1, zz15⟩
      ·
       rw [if_neg c9] at H
       exact absurd H zz56
     ·
      rw [if_neg c8] at H
      exact absurd H zz56
    ·
     rw [if_neg c6] at H
     exact absurd H zz56
   ·
    rw [if_neg c5] at H
    exact absurd H zz56
  ·
   rw [if_neg c4] at H
   have c4b0 : (a1 == 6) = false := beq_eq_false_iff_ne.mpr c4
   have c4b1 : (a1 != 6) = true := bne_iff_ne.mpr c4
   by_cases c12 : a1 = 8
   ·
    rw [if_pos c12] at H
    have c12b0 : (a1 == 8) = true := beq_iff_eq.mpr c12
    have c12b1 : (a1 != 8) = false := bne_eq_false_iff_eq.mpr c12
    clear c12
    simp only [Option.some.injEq, Prod.mk.injEq] at H
    obtain ⟨rfl, rfl⟩ := H
    go_enter Try.func107, Try.ntmps107
    go_wp2
    repeat (go_quiet (fail); try go_wp2)
    go_ret2
    exact ⟨zz1, zz15⟩
   ·
    rw [if_neg c12] at H
    have c12b0 : (a1 == 8) = false := beq_eq_false_iff_ne.mpr c12
    have c12b1 : (a1 != 8) = true := bne_iff_ne.mpr c12
    simp only [Option.some.injEq, Prod.mk.injEq] at H
    obtain ⟨rfl, rfl⟩ := H
    go_enter Try.func107, Try.ntmps107
    go_wp2
    repeat (go_quiet (fail); try go_wp2)
    go_ret2
    exact ⟨zz1, zz15⟩
def when_may.f (k : Nat) (a0 : ByteArray) : Option (Bool) := if (a0.size : Int) ≤ 4 then (some true) else ((when_span.f k a0 (Go.bits .andNot .i64 (wrap64 ((a0.size : Int) - 1)) 1)).bind fun bt189 => (if ((a0.size : Int) % 2) = 1 then (if 0 ≤ (Go.bits .andNot .i64 (wrap64 ((a0.size : Int) - 1)) 1) then (if (Go.bits .andNot .i64 (wrap64 ((a0.size : Int) - 1)) 1) ≤ (a0.size : Int) then ((when_number.f k (a0.extract ((Go.bits .andNot .i64 (wrap64 ((a0.size : Int) - 1)) 1) : Int).toNat a0.size)).bind fun t191 => (if t191 ≥ (wrap64 (Int.tdiv bt189.1 10)) then ((when_number.f k (a0.extract ((Go.bits .andNot .i64 (wrap64 ((a0.size : Int) - 1)) 1) : Int).toNat a0.size)).bind fun t192 => (some (decide (t192 ≤ (wrap64 (Int.tdiv bt189.2 10)))))) else (some false))) else (none)) else (none)) else (if 0 ≤ (Go.bits .andNot .i64 (wrap64 ((a0.size : Int) - 1)) 1) then (if (Go.bits .andNot .i64 (wrap64 ((a0.size : Int) - 1)) 1) ≤ (a0.size : Int) then ((when_number.f k (a0.extract ((Go.bits .andNot .i64 (wrap64 ((a0.size : Int) - 1)) 1) : Int).toNat a0.size)).bind fun t193 => (if t193 ≥ bt189.1 then ((when_number.f k (a0.extract ((Go.bits .andNot .i64 (wrap64 ((a0.size : Int) - 1)) 1) : Int).toNat a0.size)).bind fun t194 => (some (decide (t194 ≤ bt189.2)))) else (some false))) else (none)) else (none))))
set_option maxHeartbeats 8000000 in
set_option maxRecDepth 100000 in
theorem when_may.calls (k : Nat) (a0 : ByteArray) (r : Bool) (w : World) (h : when_may.f k a0 = some r) :
 Calls Try.prog 105 #[.string a0] w fun e w' => e = .returned (.bool r) ∧ Drawn0 w w' := by
 have H : (if (a0.size : Int) ≤ 4 then (some true) else ((when_span.f k a0 (Go.bits .andNot .i64 (wrap64 ((a0.size : Int) - 1)) 1)).bind fun bt189 => (if ((a0.size : Int) % 2) = 1 then (if 0 ≤ (Go.bits .andNot .i64 (wrap64 ((a0.size : Int) - 1)) 1) then (if (Go.bits .andNot .i64 (wrap64 ((a0.size : Int) - 1)) 1) ≤ (a0.size : Int) then ((when_number.f k (a0.extract ((Go.bits .andNot .i64 (wrap64 ((a0.size : Int) - 1)) 1) : Int).toNat a0.size)).bind fun t191 => (if t191 ≥ (wrap64 (Int.tdiv bt189.1 10)) then ((when_number.f k (a0.extract ((Go.bits .andNot .i64 (wrap64 ((a0.size : Int) - 1)) 1) : Int).toNat a0.size)).bind fun t192 => (some (decide (t192 ≤ (wrap64 (Int.tdiv bt189.2 10)))))) else (some false))) else (none)) else (none)) else (if 0 ≤ (Go.bits .andNot .i64 (wrap64 ((a0.size : Int) - 1)) 1) then (if (Go.bits .andNot .i64 (wrap64 ((a0.size : Int) - 1)) 1) ≤ (a0.size : Int) then ((when_number.f k (a0.extract ((Go.bits .andNot .i64 (wrap64 ((a0.size : Int) - 1)) 1) : Int).toNat a0.size)).bind fun t193 => (if t193 ≥ bt189.1 then ((when_number.f k (a0.extract ((Go.bits .andNot .i64 (wrap64 ((a0.size : Int) - 1)) 1) : Int).toNat a0.size)).bind fun t194 => (some (decide (t194 ≤ bt189.2)))) else (some false))) else (none)) else (none))))) = some r := h
 clear h
 by_cases c2 : (a0.size : Int) ≤ 4
 ·
  rw [if_pos c2] at H
  have c2b0 : decide ((a0.size : Int) ≤ 4) = true := decide_eq_true c2
  have c2b1 : decide (a0.size ≤ 4) = true := decide_eq_true zz18
  clear c2
  obtain rfl := Option.some.inj H
  go_enter Try.func105, Try.ntmps105
  go_wp2
  go_ret
  exact ⟨zz1, zz15⟩
 ·
  rw [if_neg c2] at H
  have c2b0 : decide ((a0.size : Int) ≤ 4) = false := decide_eq_false c2
  have c2b1 : decide (a0.size ≤ 4) = false := decide_eq_false zz18
  clear c2
  replace H := Option.bind_eq_some_iff.mp H
  obtain ⟨⟨t189, t190⟩, A30, H⟩ := H
  replace H : (if ((a0.size : Int) % 2) = 1 then (if 0 ≤ (Go.bits .andNot .i64 (wrap64 ((a0.size : Int) - 1)) 1) then (if (Go.bits .andNot .i64 (wrap64 ((a0.size : Int) - 1)) 1) ≤ (a0.size : Int) then ((when_number.f k (a0.extract ((Go.bits .andNot .i64 (wrap64 ((a0.size : Int) - 1)) 1) : Int).toNat a0.size)).bind fun t191 => (if t191 ≥ (wrap64 (Int.tdiv t189 10)) then ((when_number.f k (a0.extract ((Go.bits .andNot .i64 (wrap64 ((a0.size : Int) - 1)) 1) : Int).toNat a0.size)).bind fun t192 => (some (decide (t192 ≤ (wrap64 (Int.tdiv t190 10)))))) else (some false))) else (none)) else (none)) else (if 0 ≤ (Go.bits .andNot .i64 (wrap64 ((a0.size : Int) - 1)) 1) then (if (Go.bits .andNot .i64 (wrap64 ((a0.size : Int) - 1)) 1) ≤ (a0.size : Int) then ((when_number.f k (a0.extract ((Go.bits .andNot .i64 (wrap64 ((a0.size : Int) - 1)) 1) : Int).toNat a0.size)).bind fun t193 => (if t193 ≥ t189 then ((when_number.f k (a0.extract ((Go.bits .andNot .i64 (wrap64 ((a0.size : Int) - 1)) 1) : Int).toNat a0.size)).bind fun t194 => (some (decide (t194 ≤ t190)))) else (some false))) else (none)) else (none))) = some r := H
  have A3 := Aside0.mk A30
  clear A30
  by_cases c4 : ((a0.size : Int) % 2) = 1
  ·
   rw [if_pos c4] at H
   have c4b0 : (((a0.size : Int) % 2) == 1) = true := beq_iff_eq.mpr c4
   have c4b1 : (((a0.size : Int) % 2) != 1) = false := bne_eq_false_iff_eq.mpr c4
   clear c4
   obtain ⟨ji5, hji5⟩ : ∃ j_ : Int, (Go.bits .andNot .i64 (wrap64 ((a0.size : Int) - 1)) 1) = j_ := ⟨_, rfl⟩
   replace H : (if 0 ≤ (ji5) then (if (ji5) ≤ (a0.size : Int) then ((when_number.f k (a0.extract ((ji5) : Int).toNat a0.size)).bind fun t191 => (if t191 ≥ (wrap64 (Int.tdiv t189 10)) then ((when_number.f k (a0.extract ((ji5) : Int).toNat a0.size)).bind fun t192 => (some (decide (t192 ≤ (wrap64 (Int.tdiv t190 10)))))) else (some false))) else (none)) else (none)) = some r := by first | (rw [hji5] at H; exact H) | (simp only [hji5] at H ⊢; exact H)
   (try rw [hji5] at A3)
   by_cases c6 : 0 ≤ (ji5)
   ·
    rw [if_pos c6] at H
    have c6b0 := eq_true c6
    have c6b1 : decide (0 ≤ (ji5)) = true := decide_eq_true c6
    clear c6
    by_cases c7 : (ji5) ≤ (a0.size : Int)
    ·
     rw [if_pos c7] at H
     have c7b0 := eq_true c7
     have c7b1 : decide ((ji5) ≤ (a0.size : Int)) = true := decide_eq_true c7
     clear c7
     obtain ⟨xt5, hxt5⟩ : ∃ x_ : ByteArray, (a0.extract ((ji5) : Int).toNat a0.size) = x_ := ⟨_, rfl⟩
     rw [hxt5] at H
     replace H := Option.bind_eq_some_iff.mp H
     obtain ⟨t191, A80, H⟩ := H
     replace H : (if t191 ≥ (wrap64 (Int.tdiv t189 10)) then ((when_number.f k xt5).bind fun t192 => (some (decide (t192 ≤ (wrap64 (Int.tdiv t190 10)))))) else (some false)) = some r := H
     have A8 := Aside0.mk A80
     clear A80
     by_cases c9 : t191 ≥ (wrap64 (Int.tdiv t189 10))
     ·
      rw [if_pos c9] at H
      have c9b0 : decide ((wrap64 (Int.tdiv t189 10)) ≤ t191) = true := decide_eq_true c9
      clear c9
      have c10b0 := eq_true (of_decide_eq_true zz8 : 0 ≤ (ji5))
      have c11b0 := eq_true (of_decide_eq_true zz8 : (ji5) ≤ (a0.size : Int))
      replace H := Option.bind_eq_some_iff.mp H
      obtain ⟨t192, A120, H⟩ := H
      replace H : (some (decide (t192 ≤ (wrap64 (Int.tdiv t190 10))))) = some r := H
      have A12 := Aside0.mk A120
      clear A120
      have hsm_ := A8.out.symm.trans A12.out
      simp only [Option.some.injEq, Prod.mk.injEq] at hsm_
      obtain rfl := hsm_
      obtain rfl := Option.some.inj H
      go_enter Try.func105, Try.ntmps105
      go_wp2_with (first | ((with_reducible refine gate_callee (f := 107) rfl ?_); refine goesL_ (some 17) rfl rfl Try.func107 zz23 rfl #[.string a0, .int .i64 ji5] rfl zz59 ?_; (with_reducible refine (when_span.calls k a0 ji5 t189 t190 _ A3.out).mono ?_); rintro e w' ⟨rfl, ⟨nd, rfl⟩⟩; refine ⟨_, rfl, ?_⟩) | ((with_reducible refine gate_callee (f := 108) rfl ?_); refine goesL_ (some 26) rfl rfl Try.func108 zz23 rfl #[.string xt5] rfl zz59 ?_; (with_reducible refine (when_number.calls k xt5 t191 _ A8.out).mono ?_); rintro e w' ⟨rfl, ⟨nd, rfl⟩⟩; refine ⟨_, rfl, ?_⟩) | (go_at_call 108; (with_reducible refine (when_number.calls k xt5 t191 _ A12.out).mono ?_); rintro e w' ⟨rfl, ⟨nd, rfl⟩⟩))
      go_ret
      exact ⟨by first | rfl | (simp; done) | (simp only [← hji5] <;> (first | rfl | simp)) | (simp [*]; done), zz15⟩
     ·
      rw [if_neg c9] at H
      have c9b0 : decide ((wrap64 (Int.tdiv t189 10)) ≤ t191) = false := decide_eq_false c9
      clear c9
      obtain rfl := Option.some.inj H
      go_enter Try.func105, Try.ntmps105
      go_wp2_with (first | ((with_reducible refine gate_callee (f := 107) rfl ?_); refine goesL_ (some 17) rfl rfl Try.func107 zz23 rfl #[.string a0, .int .i64 ji5] rfl zz59 ?_; (with_reducible refine (when_span.calls k a0 ji5 t189 t190 _ A3.out).mono ?_); rintro e w' ⟨rfl, ⟨nd, rfl⟩⟩; refine ⟨_, rfl, ?_⟩) | ((with_reducible refine gate_callee (f := 108) rfl ?_); refine goesL_ (some 26) rfl rfl Try.func108 zz23 rfl #[.string xt5] rfl zz59 ?_; (with_reducible refine (when_number.calls k xt5 t191 _ A8.out).mono ?_); rintro e w' ⟨rfl, ⟨nd, rfl⟩⟩; refine ⟨_, rfl, ?_⟩))
      go_ret
      exact ⟨by first | rfl | (simp; done) | (simp only [← hji5] <;> (first | rfl | simp)) | (simp [*]; done), zz15⟩
    ·
     rw [if_neg c7] at H
     exact absurd H zz56
   ·
    rw [if_neg c6] at H
    exact absurd H zz56
  ·
   rw [if_neg c4] at H
   have c4b0 : (((a0.size : Int) % 2) == 1) = false := beq_eq_false_iff_ne.mpr c4
   have c4b1 : (((a0.size : Int) % 2) != 1) = true := bne_iff_ne.mpr c4
   obtain ⟨ji13, hji13⟩ : ∃ j_ : Int, (Go.bits .andNot .i64 (wrap64 ((a0.size : Int) - 1)) 1) = j_ := ⟨_, rfl⟩
   replace H : (if 0 ≤ (ji13) then (if (ji13) ≤ (a0.size : Int) then ((when_number.f k (a0.extract ((ji13) : Int).toNat a0.size)).bind fun t193 => (if t193 ≥ t189 then ((when_number.f k (a0.extract ((ji13) : Int).toNat a0.size)).bind fun t194 => (some (decide (t194 ≤ t190)))) else (some false))) else (none)) else (none)) = some r := by first | (rw [hji13] at H; exact H) | (simp only [hji13] at H ⊢; exact H)
   (try rw [hji13] at A3)
   by_cases c14 : 0 ≤ (ji13)
   ·
    rw [if_pos c14] at H
    have c14b0 := eq_true c14
    have c14b1 : decide (0 ≤ (ji13)) = true := decide_eq_true c14
    clear c14
    by_cases c15 : (ji13) ≤ (a0.size : Int)
    ·
     rw [if_pos c15] at H
     have c15b0 := eq_true c15
     have c15b1 : decide ((ji13) ≤ (a0.size : Int)) = true := decide_eq_true c15
     clear c15
     obtain ⟨xt13, hxt13⟩ : ∃ x_ : ByteArray, (a0.extract ((ji13) : Int).toNat a0.size) = x_ := ⟨_, rfl⟩
     rw [hxt13] at H
     replace H := Option.bind_eq_some_iff.mp H
     obtain ⟨t193, A160, H⟩ := H
     replace H : (if t193 ≥ t189 then ((when_number.f k xt13).bind fun t194 => (some (decide (t194 ≤ t190)))) else (some false)) = some r := H
     have A16 := Aside0.mk A160
     clear A160
     by_cases c17 : t193 ≥ t189
     ·
      rw [if_pos c17] at H
      have c17b0 : decide (t189 ≤ t193) = true := decide_eq_true c17
      clear c17
      have c18b0 := eq_true (of_decide_eq_true zz8 : 0 ≤ (ji13))
      have c19b0 := eq_true (of_decide_eq_true zz8 : (ji13) ≤ (a0.size : Int))
      replace H := Option.bind_eq_some_iff.mp H
      obtain ⟨t194, A200, H⟩ := H
      replace H : (some (decide (t194 ≤ t190))) = some r := H
      have A20 := Aside0.mk A200
      clear A200
      have hsm_ := A16.out.symm.trans A20.out
      simp only [Option.some.injEq, Prod.mk.injEq] at hsm_
      obtain rfl := hsm_
      obtain rfl := Option.some.inj H
      go_enter Try.func105, Try.ntmps105
      go_wp2_with (first | ((with_reducible refine gate_callee (f := 107) rfl ?_); refine goesL_ (some 17) rfl rfl Try.func107 zz23 rfl #[.string a0, .int .i64 ji13] rfl zz58 ?_; (with_reducible refine (when_span.calls k a0 ji13 t189 t190 _ A3.out).mono ?_); rintro e w' ⟨rfl, ⟨nd, rfl⟩⟩; refine ⟨_, rfl, ?_⟩) | ((with_reducible refine gate_callee (f := 108) rfl ?_); refine goesL_ (some 42) rfl rfl Try.func108 zz23 rfl #[.string xt13] rfl zz58 ?_; (with_reducible refine (when_number.calls k xt13 t193 _ A16.out).mono ?_); rintro e w' ⟨rfl, ⟨nd, rfl⟩⟩; refine ⟨_, rfl, ?_⟩) | (go_at_call 108; (with_reducible refine (when_number.calls k xt13 t193 _ A20.out).mono ?_); rintro e w' ⟨rfl, ⟨nd, rfl⟩⟩))
      go_ret
      exact ⟨by first | rfl | (simp; done) | (simp only [← hji13] <;> (first | rfl | simp)) | (simp [*]; done), zz15⟩
     ·
      rw [if_neg c17] at H
      have c17b0 : decide (t189 ≤ t193) = false := decide_eq_false c17
      clear c17
      obtain rfl := Option.some.inj H
      go_enter Try.func105, Try.ntmps105
      go_wp2_with (first | ((with_reducible refine gate_callee (f := 107) rfl ?_); refine goesL_ (some 17) rfl rfl Try.func107 zz23 rfl #[.string a0, .int .i64 ji13] rfl zz58 ?_; (with_reducible refine (when_span.calls k a0 ji13 t189 t190 _ A3.out).mono ?_); rintro e w' ⟨rfl, ⟨nd, rfl⟩⟩; refine ⟨_, rfl, ?_⟩) | ((with_reducible refine gate_callee (f := 108) rfl ?_); refine goesL_ (some 42) rfl rfl Try.func108 zz23 rfl #[.string xt13] rfl zz58 ?_; (with_reducible refine (when_number.calls k xt13 t193 _ A16.out).mono ?_); rintro e w' ⟨rfl, ⟨nd, rfl⟩⟩; refine ⟨_, rfl, ?_⟩))
      go_ret
      exact ⟨by first | rfl | (simp; done) | (simp only [← hji13] <;> (first | rfl | simp)) | (simp [*]; done), zz15⟩
    ·
     rw [if_neg c15] at H
     exact absurd H zz56
   ·
    rw [if_neg c14] at H
    exact absurd H zz56
end Go.Proofs.Ytpfconocipmcjaa.PC
namespace Go.Proofs.Ytpfconocipmcjaa.PC
open Go.RowKit Go.Proofs.YtpfconocipmcjaaW.PrintWords Go.Proofs.YtpfconocipmcjaaW.PrintLast Go.Proofs.YtpfconocipmcjaaW.PrintMore
attribute [local go_sem] max2_int min2_int max_two min_two max_three min_three max_four min_four
set_option linter.unusedVariables false
set_option linter.unusedSimpArgs false
def when_late.l0 : Nat → ByteArray → Option (Bool)
 | 0, _ => none
 | k + 1, x3 => if (x3.size : Int) < 4 then (if x3.size + 1 ≤ 9223372036854775807 then (when_late.l0 k (x3 ++ (⟨#[57]⟩ : ByteArray))) else (none)) else (if 0 ≤ 4 then (if 4 ≤ (x3.size : Int) then ((when_number.f k (x3.extract 0 4)).bind fun t195 => (some (decide (t195 ≥ 2050)))) else (none)) else (none))
def when_late.f (k : Nat) (a0 : ByteArray) : Option (Bool) := when_late.l0 k a0
set_option maxHeartbeats 8000000 in
set_option maxRecDepth 100000 in
theorem when_late.calls (k : Nat) (a0 : ByteArray) (r : Bool) (w : World) (h : when_late.f k a0 = some r) :
 Calls Try.prog 106 #[.string a0] w fun e w' => e = .returned (.bool r) ∧ Drawn0 w w' := by
 have H : (when_late.l0 k a0) = some r := h
 clear h
 have H' := Aside0.mk H
 clear H
 go_enter Try.func106, Try.ntmps106
 go_wp2
 go_loopg [3] k (fun kq v3 w' => ∃ (x3_1 : ByteArray), v3 = .string x3_1 ∧ Aside0 (when_late.l0 kq x3_1 = some r) ∧ Aside0 (kq ≤ k) ∧ Drawn0 w w')
 case atStart => exact ⟨(a0), zz1, H', ⟨Nat.le_refl _⟩, zz15⟩
 case round =>
  clear H'
  try clear c1
  obtain ⟨x3_1, rfl, HA, HK1, ⟨m1, rfl⟩⟩ := hrel
  cases gk with
  | zero => exact absurd HA.out (by simp [when_late.l0])
  | succ k1 =>
    have H := HA.out
    clear HA
    simp only [when_late.l0] at H
    by_cases c2 : (x3_1.size : Int) < 4
    ·
     rw [if_pos c2] at H
     have c2b0 : decide ((x3_1.size : Int) < 4) = true := decide_eq_true c2
     have c2b1 : decide (x3_1.size < 4) = true := decide_eq_true zz18
     clear c2
     by_cases c3 : x3_1.size + 1 ≤ 9223372036854775807
     ·
      rw [if_pos c3] at H
      have c3b0 := eq_true c3
      have c3b1 : decide (x3_1.size + 1 ≤ 9223372036854775807) = true := decide_eq_true c3
      try have c3b2 : (9223372036854775807 < x3_1.size + 1) = False := eq_false (Nat.not_lt.2 c3)
      have H' := Aside0.mk H
      clear H
      go_wp2
      go_roundg k1
      case measure => have := HK1.out; omega
      case rel => exact ⟨(x3_1 ++ (⟨#[57]⟩ : ByteArray)), zz1, H', ⟨by have := HK1.out; omega⟩, zz15⟩
     ·
      rw [if_neg c3] at H
      exact absurd H zz56
    ·
     rw [if_neg c2] at H
     have c2b0 : decide ((x3_1.size : Int) < 4) = false := decide_eq_false c2
     have c2b1 : decide (x3_1.size < 4) = false := decide_eq_false zz18
     clear c2
     by_cases c4 : 0 ≤ 4
     ·
      rw [if_pos c4] at H
      have c4b0 := eq_true c4
      have c4b1 : decide (0 ≤ 4) = true := decide_eq_true c4
      clear c4
      by_cases c5 : 4 ≤ (x3_1.size : Int)
      ·
       rw [if_pos c5] at H
       have c5b0 := eq_true c5
       have c5b1 : decide (4 ≤ (x3_1.size : Int)) = true := decide_eq_true c5
       clear c5
       replace H := Option.bind_eq_some_iff.mp H
       obtain ⟨t195, A60, H⟩ := H
       replace H : (some (decide (t195 ≥ 2050))) = some r := H
       have A6 := Aside0.mk A60
       clear A60
       obtain rfl := Option.some.inj H
       go_wp2_with (first | ((with_reducible refine gate_callee (f := 108) rfl ?_); refine goesL_ (some 12) rfl rfl Try.func108 zz23 rfl #[.string (x3_1.extract 0 4)] rfl zz39 ?_; (with_reducible refine (when_number.calls k1 (x3_1.extract 0 4) t195 _ A6.out).mono ?_); rintro e w' ⟨rfl, ⟨nd, rfl⟩⟩; refine ⟨_, rfl, ?_⟩))
       go_ret
       exact ⟨zz1, zz15⟩
      ·
       rw [if_neg c5] at H
       exact absurd H zz56
     ·
      rw [if_neg c4] at H
      exact absurd H zz56
end Go.Proofs.Ytpfconocipmcjaa.PC
