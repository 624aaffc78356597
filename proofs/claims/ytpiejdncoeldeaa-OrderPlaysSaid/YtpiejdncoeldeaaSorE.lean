/- What (*order.Sorter).End comes to, walked by hand. -/
import Derived.Test.YtpiejdncoeldeaaSorD
namespace Go.Proofs.Ytpiejdncoeldeaa.Hand
open Go.RowKit Go.Proofs.Ytpiejdncoeldeaa.PA Go.Proofs.YtpiejdncoeldeaaW.PrintWords Go.Proofs.YtpiejdncoeldeaaW.PrintLast Go.Proofs.YtpiejdncoeldeaaW.PrintMore
set_option linter.unusedVariables false

set_option maxHeartbeats 4000000 in
set_option maxRecDepth 100000 in
theorem end_over (g : Nat) (most : Int) (last now : List Int) (begun : Bool) (over : Int) (w0 w : World) (hB : Below w0.heap.size w0 w) (hS : So w0 w g most last now begun over) (ho : over ≠ 0) :
    Calls Try.prog 15 #[.pointer (some ⟨g, 0, none⟩)] w fun e w' => e = .returned (.int .i64 over) ∧ So w0 w' g most last now begun over ∧ Below w0.heap.size w0 w' := by
  have hS' := Aside0.mk hS
  have HB := Aside0.mk hB
  obtain ⟨vl, vn, hb0, hge, hl, hn, hap⟩ := hS
  have hc4 : w.cell? ⟨g, 4, none⟩ = some (.int .i64 over) := (blk_cell hb0 4).trans rfl
  have ho1 : (over != 0) = true := bne_iff_ne.2 ho
  clear hB hb0 hl hn hap
  go_enter Try.func15, Try.ntmps15
  go_wp2
  go_ret
  exact ⟨rfl, hS'.out, by repeat (first | (with_reducible first | exact HB.out | apply below_alloc | apply pw_below_drewN | apply below_drew1) | exact HB.out)⟩
set_option maxHeartbeats 4000000 in
set_option maxRecDepth 100000 in
theorem end_first (g : Nat) (most : Int) (last now : List Int) (w0 w : World) (hB : Below w0.heap.size w0 w) (hS : So w0 w g most last now false 0) :
    Calls Try.prog 15 #[.pointer (some ⟨g, 0, none⟩)] w fun e w' => e = .returned (.int .i64 0) ∧ So w0 w' g most now [] true 0 ∧ Below w0.heap.size w0 w' := by
  have HB := Aside0.mk hB
  obtain ⟨vl, vn, hb0, hge, hl, hn, hap⟩ := hS
  obtain ⟨An, cn, rfl⟩ := Kd.R_slice hn
  obtain ⟨Al, cl, rfl⟩ := Kd.R_slice hl
  have HT := Aside0.mk (fun (W : World) (h : W.heap = w.heap) => h)
  have BG := Aside0.mk hb0
  have HL := Aside0.mk hl
  have HN := Aside0.mk hn
  have HP := Aside0.mk hap
  have GE := Aside0.mk hge
  have hc1 : w.cell? ⟨g, 1, none⟩ = some (.slice Al last.length cl) := (blk_cell hb0 1).trans rfl
  have hc2 : w.cell? ⟨g, 2, none⟩ = some (.slice An now.length cn) := (blk_cell hb0 2).trans rfl
  have hc3 : w.cell? ⟨g, 3, none⟩ = some (.bool false) := (blk_cell hb0 3).trans rfl
  have hc4 : w.cell? ⟨g, 4, none⟩ = some (.int .i64 0) := (blk_cell hb0 4).trans rfl
  have hf1 : w.frozen? ⟨g, 1, none⟩ = false := blk_frozen hb0 1
  have hf2 : w.frozen? ⟨g, 2, none⟩ = false := blk_frozen hb0 2
  have hf3 : w.frozen? ⟨g, 3, none⟩ = false := blk_frozen hb0 3
  clear hB hb0 hl hn hap hge
  go_enter Try.func15, Try.ntmps15
  go_wp2
  go_region
  go_wp2
  go_region
  go_wp2
  go_ret
  exact ⟨rfl, (So.turn BG.out GE.out HL.out HN.out HP.out).drew.drew, by repeat (first | (with_reducible first | exact HB.out | apply below_alloc | apply pw_below_drewN | apply below_drew1 | refine below_set ?_ GE.out) | exact HB.out)⟩
set_option maxHeartbeats 4000000 in
set_option maxRecDepth 100000 in
theorem end_ok (k : Nat) (g : Nat) (most : Int) (last now : List Int) (c : Int) (w0 w : World) (hB : Below w0.heap.size w0 w) (hS : So w0 w g most last now true 0) (h : order_Compare.f k (strOfNums last) (strOfNums now) = some c) (hc : c ≤ 0) :
    Calls Try.prog 15 #[.pointer (some ⟨g, 0, none⟩)] w fun e w' => e = .returned (.int .i64 0) ∧ So w0 w' g most now [] true 0 ∧ Below w0.heap.size w0 w' := by
  have HB := Aside0.mk hB
  have HC := Aside0.mk h
  obtain ⟨vl, vn, hb0, hge, hl, hn, hap⟩ := hS
  obtain ⟨An, cn, rfl⟩ := Kd.R_slice hn
  obtain ⟨Al, cl, rfl⟩ := Kd.R_slice hl
  have BG := Aside0.mk hb0
  have HL := Aside0.mk hl
  have HN := Aside0.mk hn
  have HP := Aside0.mk hap
  have GE := Aside0.mk hge
  have hc1 : w.cell? ⟨g, 1, none⟩ = some (.slice Al last.length cl) := (blk_cell hb0 1).trans rfl
  have hc2 : w.cell? ⟨g, 2, none⟩ = some (.slice An now.length cn) := (blk_cell hb0 2).trans rfl
  have hc3 : w.cell? ⟨g, 3, none⟩ = some (.bool true) := (blk_cell hb0 3).trans rfl
  have hc4 : w.cell? ⟨g, 4, none⟩ = some (.int .i64 0) := (blk_cell hb0 4).trans rfl
  have hvl := own_string (P := Try.prog) Try.underlying45 Try.underlying5 Try.underlying9 (Kd.own_of_R (Kd.R_drew hl))
  have hvn := own_string (P := Try.prog) Try.underlying45 Try.underlying5 Try.underlying9 (Kd.own_of_R (Kd.R_drew hn))
  have hd1 : decide (0 < c) = false := by simp; omega
  clear hB hb0 hl hn hap hge h
  go_enter Try.func15, Try.ntmps15
  go_upto_region 3 with (fail)
  go_cut [29] (fun v29 wc => v29 = .bool false ∧ Aside0 (wc.heap[g]? = some (.cells #[.int .i64 most, .slice Al last.length cl, .slice An now.length cn, .bool true, .int .i64 0] 47 (0, 0))) ∧ Aside0 ((Kd.int .u8).R 5 wc w0.heap.size (fun _ => True) (.slice Al last.length cl) last) ∧ Aside0 ((Kd.int .u8).R 5 wc w0.heap.size (fun _ => True) (.slice An now.length cn) now) ∧ Aside0 (Below w0.heap.size w0 wc))
  case first =>
    go_region_with (first
    | (
       go_at_call 9
       (with_reducible refine (order_Compare.calls k (strOfNums last) (strOfNums now) c _ HC.out).mono ?_)
       rintro e w2 ⟨rfl, hb⟩
       have n0_ := Aside0.mk (blk_below (by (with_reducible repeat (first | refine blk_drewN ?_ _ | refine blk_drew ?_ | refine blk_alloc ?_ _)); exact BG.out) hb)
       have n1_ := Aside0.mk (Kd.R_below (by (with_reducible repeat (first | apply Kd.R_alloc | apply Kd.R_drewN | apply Kd.R_drew)); exact HL.out) hb)
       have n2_ := Aside0.mk (Kd.R_below (by (with_reducible repeat (first | apply Kd.R_alloc | apply Kd.R_drewN | apply Kd.R_drew)); exact HN.out) hb)
       have n3_ := Aside0.mk (below_step (by repeat (first | (with_reducible first | exact HB.out | apply below_alloc | apply pw_below_drewN | apply below_drew1) | exact HB.out)) hb)
       clear BG HL HN HB hc1 hc2 hc3 hc4 hvl hvn; have BG := n0_; have HL := n1_; have HN := n2_; have HB := n3_; clear n0_ n1_ n2_ n3_ hb))
    all_goals (
      go_wp2
      go_meet
      exact ⟨rfl, ⟨by (with_reducible repeat (first | refine blk_drewN ?_ _ | refine blk_drew ?_ | refine blk_alloc ?_ _)); exact BG.out⟩, ⟨by (with_reducible repeat (first | apply Kd.R_alloc | apply Kd.R_drewN | apply Kd.R_drew)); exact HL.out⟩, ⟨by (with_reducible repeat (first | apply Kd.R_alloc | apply Kd.R_drewN | apply Kd.R_drew)); exact HN.out⟩, ⟨by repeat (first | (with_reducible first | exact HB.out | apply below_alloc | apply pw_below_drewN | apply below_drew1) | exact HB.out)⟩⟩)
  case rest =>
    clear BG HL HN HB hc1 hc2 hc3 hc4 hvl hvn
    obtain ⟨rfl, BG, HL, HN, HB⟩ := hcut
    have hc1 : wc.cell? ⟨g, 1, none⟩ = some (.slice Al last.length cl) := (blk_cell BG.out 1).trans rfl
    have hc2 : wc.cell? ⟨g, 2, none⟩ = some (.slice An now.length cn) := (blk_cell BG.out 2).trans rfl
    have hc3 : wc.cell? ⟨g, 3, none⟩ = some (.bool true) := (blk_cell BG.out 3).trans rfl
    have hc4 : wc.cell? ⟨g, 4, none⟩ = some (.int .i64 0) := (blk_cell BG.out 4).trans rfl
    have hf1 : wc.frozen? ⟨g, 1, none⟩ = false := blk_frozen BG.out 1
    have hf2 : wc.frozen? ⟨g, 2, none⟩ = false := blk_frozen BG.out 2
    have hf3 : wc.frozen? ⟨g, 3, none⟩ = false := blk_frozen BG.out 3
    have hf4 : wc.frozen? ⟨g, 4, none⟩ = false := blk_frozen BG.out 4
    go_wp2
    go_region
    go_wp2
    go_ret
    exact ⟨rfl, by first | exact (So.turn BG.out GE.out HL.out HN.out HP.out).drew.drew | exact (So.turn BG.out GE.out HL.out HN.out HP.out).drew, by repeat (first | (with_reducible first | exact HB.out | apply below_alloc | apply pw_below_drewN | apply below_drew1 | refine below_set ?_ GE.out) | exact HB.out)⟩
set_option maxHeartbeats 4000000 in
set_option maxRecDepth 100000 in
theorem end_bad (k : Nat) (g : Nat) (most : Int) (last now : List Int) (c : Int) (w0 w : World) (hB : Below w0.heap.size w0 w) (hS : So w0 w g most last now true 0) (h : order_Compare.f k (strOfNums last) (strOfNums now) = some c) (hc : 0 < c) :
    Calls Try.prog 15 #[.pointer (some ⟨g, 0, none⟩)] w fun e w' => e = .returned (.int .i64 9) ∧ So w0 w' g most last now true 9 ∧ Below w0.heap.size w0 w' := by
  have HB := Aside0.mk hB
  have HC := Aside0.mk h
  obtain ⟨vl, vn, hb0, hge, hl, hn, hap⟩ := hS
  obtain ⟨An, cn, rfl⟩ := Kd.R_slice hn
  obtain ⟨Al, cl, rfl⟩ := Kd.R_slice hl
  have BG := Aside0.mk hb0
  have HL := Aside0.mk hl
  have HN := Aside0.mk hn
  have HP := Aside0.mk hap
  have GE := Aside0.mk hge
  have hc1 : w.cell? ⟨g, 1, none⟩ = some (.slice Al last.length cl) := (blk_cell hb0 1).trans rfl
  have hc2 : w.cell? ⟨g, 2, none⟩ = some (.slice An now.length cn) := (blk_cell hb0 2).trans rfl
  have hc3 : w.cell? ⟨g, 3, none⟩ = some (.bool true) := (blk_cell hb0 3).trans rfl
  have hc4 : w.cell? ⟨g, 4, none⟩ = some (.int .i64 0) := (blk_cell hb0 4).trans rfl
  have hvl := own_string (P := Try.prog) Try.underlying45 Try.underlying5 Try.underlying9 (Kd.own_of_R (Kd.R_drew hl))
  have hvn := own_string (P := Try.prog) Try.underlying45 Try.underlying5 Try.underlying9 (Kd.own_of_R (Kd.R_drew hn))
  have hd1 : decide (0 < c) = true := by simp; omega
  clear hB hb0 hl hn hap hge h
  go_enter Try.func15, Try.ntmps15
  go_upto_region 3 with (fail)
  go_cut [29] (fun v29 wc => v29 = .bool true ∧ Aside0 (wc.heap[g]? = some (.cells #[.int .i64 most, .slice Al last.length cl, .slice An now.length cn, .bool true, .int .i64 0] 47 (0, 0))) ∧ Aside0 ((Kd.int .u8).R 5 wc w0.heap.size (fun _ => True) (.slice Al last.length cl) last) ∧ Aside0 ((Kd.int .u8).R 5 wc w0.heap.size (fun _ => True) (.slice An now.length cn) now) ∧ Aside0 (Below w0.heap.size w0 wc))
  case first =>
    go_region_with (first
    | (
       go_at_call 9
       (with_reducible refine (order_Compare.calls k (strOfNums last) (strOfNums now) c _ HC.out).mono ?_)
       rintro e w2 ⟨rfl, hb⟩
       have n0_ := Aside0.mk (blk_below (by (with_reducible repeat (first | refine blk_drewN ?_ _ | refine blk_drew ?_ | refine blk_alloc ?_ _)); exact BG.out) hb)
       have n1_ := Aside0.mk (Kd.R_below (by (with_reducible repeat (first | apply Kd.R_alloc | apply Kd.R_drewN | apply Kd.R_drew)); exact HL.out) hb)
       have n2_ := Aside0.mk (Kd.R_below (by (with_reducible repeat (first | apply Kd.R_alloc | apply Kd.R_drewN | apply Kd.R_drew)); exact HN.out) hb)
       have n3_ := Aside0.mk (below_step (by repeat (first | (with_reducible first | exact HB.out | apply below_alloc | apply pw_below_drewN | apply below_drew1) | exact HB.out)) hb)
       clear BG HL HN HB hc1 hc2 hc3 hc4 hvl hvn; have BG := n0_; have HL := n1_; have HN := n2_; have HB := n3_; clear n0_ n1_ n2_ n3_ hb))
    all_goals (
      go_wp2
      go_meet
      exact ⟨rfl, ⟨by (with_reducible repeat (first | refine blk_drewN ?_ _ | refine blk_drew ?_ | refine blk_alloc ?_ _)); exact BG.out⟩, ⟨by (with_reducible repeat (first | apply Kd.R_alloc | apply Kd.R_drewN | apply Kd.R_drew)); exact HL.out⟩, ⟨by (with_reducible repeat (first | apply Kd.R_alloc | apply Kd.R_drewN | apply Kd.R_drew)); exact HN.out⟩, ⟨by repeat (first | (with_reducible first | exact HB.out | apply below_alloc | apply pw_below_drewN | apply below_drew1) | exact HB.out)⟩⟩)
  case rest =>
    clear BG HL HN HB hc1 hc2 hc3 hc4 hvl hvn
    obtain ⟨rfl, BG, HL, HN, HB⟩ := hcut
    have hc1 : wc.cell? ⟨g, 1, none⟩ = some (.slice Al last.length cl) := (blk_cell BG.out 1).trans rfl
    have hc2 : wc.cell? ⟨g, 2, none⟩ = some (.slice An now.length cn) := (blk_cell BG.out 2).trans rfl
    have hc3 : wc.cell? ⟨g, 3, none⟩ = some (.bool true) := (blk_cell BG.out 3).trans rfl
    have hc4 : wc.cell? ⟨g, 4, none⟩ = some (.int .i64 0) := (blk_cell BG.out 4).trans rfl
    have hf1 : wc.frozen? ⟨g, 1, none⟩ = false := blk_frozen BG.out 1
    have hf2 : wc.frozen? ⟨g, 2, none⟩ = false := blk_frozen BG.out 2
    have hf3 : wc.frozen? ⟨g, 3, none⟩ = false := blk_frozen BG.out 3
    have hf4 : wc.frozen? ⟨g, 4, none⟩ = false := blk_frozen BG.out 4
    go_wp2
    go_ret
    exact ⟨rfl, by (try apply So.drew); exact ⟨_, _, blk_put (cs := #[.int .i64 most, .slice Al last.length cl, .slice An now.length cn, .bool true, .int .i64 0]) BG.out 4 _ rfl, GE.out, Kd.R_set HL.out BG.out (by decide) 4 _, Kd.R_set HN.out BG.out (by decide) 4 _, HP.out⟩, by repeat (first | (with_reducible first | exact HB.out | apply below_alloc | apply pw_below_drewN | apply below_drew1 | refine below_set ?_ GE.out) | exact HB.out)⟩
end Go.Proofs.Ytpiejdncoeldeaa.Hand
