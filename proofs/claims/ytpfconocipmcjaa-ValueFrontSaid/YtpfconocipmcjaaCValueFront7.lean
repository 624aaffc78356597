/- What the row of ValueFront stands on, made small by a program of this session (pack.py). -/
import Derived.Test.YtpfconocipmcjaaCValueFront2
import Derived.Test.YtpfconocipmcjaaCValueFront4
import Derived.Test.YtpfconocipmcjaaCValueFront6
namespace Go.Proofs.Ytpfconocipmcjaa.PC
open Go.RowKit Go.Proofs.YtpfconocipmcjaaW.PrintWords Go.Proofs.YtpfconocipmcjaaW.PrintLast Go.Proofs.YtpfconocipmcjaaW.PrintMore
attribute [local go_sem] max2_int min2_int max_two min_two max_three min_three max_four min_four
set_option linter.unusedVariables false
set_option linter.unusedSimpArgs false
mutual
def when_State_Push.j0 : Nat → Int → Bool → ByteArray → Int → Bool → Option (ByteArray × Int × Bool × Bool)
 | 0, _, _, _, _, _ => none
 | k + 1, x1, x22, x197000, x197001, x197002 => if x22 = true then (some ((⟨#[]⟩ : ByteArray), 0, false, false)) else (if x197002 = true then (when_State_Push.j1 k x1 (x197000.toList == ([] : List UInt8)) x197000 x197001 x197002) else (when_State_Push.j1 k x1 false x197000 x197001 x197002))
def when_State_Push.j1 : Nat → Int → Bool → ByteArray → Int → Bool → Option (ByteArray × Int × Bool × Bool)
 | 0, _, _, _, _, _ => none
 | k + 1, x1, x30, x197000, x197001, x197002 => if x30 = true then (if x1 ≥ 53 then (when_State_Push.j2 k x1 (⟨#[49, 57]⟩ : ByteArray) x197001 x197002) else (when_State_Push.j2 k x1 (⟨#[50, 48]⟩ : ByteArray) x197001 x197002)) else (when_State_Push.j2 k x1 x197000 x197001 x197002)
def when_State_Push.j2 : Nat → Int → ByteArray → Int → Bool → Option (ByteArray × Int × Bool × Bool)
 | 0, _, _, _, _ => none
 | k + 1, x1, x197000, x197001, x197002 => (some (([x1] : List Int) : List Int)).bind fun y198 => (if x197000.size + (strOfNums y198).size ≤ 9223372036854775807 then ((when_may.f k (x197000 ++ (strOfNums y198))).bind fun t201 => (if t201 = true then (if x197002 = true then (some (x197000 ++ (strOfNums y198), x197001, x197002, true)) else ((when_late.f k (x197000 ++ (strOfNums y198))).bind fun t202 => (if t202 = true then (some (x197000 ++ (strOfNums y198), x197001, x197002, true)) else (some ((⟨#[]⟩ : ByteArray), 0, false, false))))) else (some ((⟨#[]⟩ : ByteArray), 0, false, false)))) else (none))
end
def when_State_Push.f (k : Nat) (a0_0 : ByteArray) (a0_1 : Int) (a0_2 : Bool) (a1 : Int) : Option (ByteArray × Int × Bool × Bool) := if (wrap64 (a0_1 - 1)) = 0 then (if a1 = 90 then (some (a0_0, wrap64 (a0_1 - 1), a0_2, true)) else (some ((⟨#[]⟩ : ByteArray), 0, false, false))) else (if a1 < 48 then (when_State_Push.j0 k a1 true a0_0 (wrap64 (a0_1 - 1)) a0_2) else (when_State_Push.j0 k a1 (decide (a1 > 57)) a0_0 (wrap64 (a0_1 - 1)) a0_2))
set_option maxHeartbeats 8000000 in
set_option maxRecDepth 100000 in
theorem when_State_Push.calls (k : Nat) (a0_0 : ByteArray) (a0_1 : Int) (a0_2 : Bool) (a1 : Int) (r1 : ByteArray) (r2 : Int) (r3 : Bool) (r4 : Bool) (w : World) (h : when_State_Push.f k a0_0 a0_1 a0_2 a1 = some (r1, r2, r3, r4)) :
 Calls Try.prog 104 #[.agg #[.string a0_0, .int .i64 a0_1, .bool a0_2], .int .u8 a1] w fun e w' => e = .returned (.tuple #[.agg #[.string r1, .int .i64 r2, .bool r3], .bool r4]) ∧ Below w.heap.size w w' := by
 have hu96 := Try.underlying96
 have HB := Aside0.mk (Below.refl w.heap.size w)
 have H : (if (wrap64 (a0_1 - 1)) = 0 then (if a1 = 90 then (some (a0_0, wrap64 (a0_1 - 1), a0_2, true)) else (some ((⟨#[]⟩ : ByteArray), 0, false, false))) else (if a1 < 48 then (when_State_Push.j0 k a1 true a0_0 (wrap64 (a0_1 - 1)) a0_2) else (when_State_Push.j0 k a1 (decide (a1 > 57)) a0_0 (wrap64 (a0_1 - 1)) a0_2))) = some (r1, r2, r3, r4) := h
 clear h
 by_cases c3 : (wrap64 (a0_1 - 1)) = 0
 ·
  rw [if_pos c3] at H
  have c3b0 : ((wrap64 (a0_1 - 1)) == 0) = true := beq_iff_eq.mpr c3
  have c3b1 : ((wrap64 (a0_1 - 1)) != 0) = false := bne_eq_false_iff_eq.mpr c3
  clear c3
  by_cases c4 : a1 = 90
  ·
   rw [if_pos c4] at H
   have c4b0 : (a1 == 90) = true := beq_iff_eq.mpr c4
   have c4b1 : (a1 != 90) = false := bne_eq_false_iff_eq.mpr c4
   clear c4
   simp only [Option.some.injEq, Prod.mk.injEq] at H
   obtain ⟨rfl, rfl, rfl, rfl⟩ := H
   go_enter Try.func104, Try.ntmps104
   go_wp2_with (first | ((with_reducible refine gate_dst (N := 2) rfl ?_); refine zzbx (N := 2) (cs := #[.string a0_0, .int .i64 a0_1, .bool a0_2]) (t := 96) ?_; intro gb196 hg w5 hbox hb; have n0_ := Aside0.mk (below_step zz0 hb); have n1_ := Aside0.mk (hbox); have n2_ := Aside0.mk ((zz12 : w.heap.size ≤ gb196)); have n3_ := Aside0.mk ((zz12 : w.heap.size ≤ gb196)); clear HB; have HB := n0_; have BK196 := n1_; have GW196 := n2_; have GE196 := n3_; clear n0_ n1_ n2_ n3_; clear hb hbox hg) | ((with_reducible refine gate_dst (N := 4) rfl ?_); refine zzbx (N := 4) (cs := #[.string (⟨#[]⟩ : ByteArray), .int .i64 0, .bool false]) (t := 96) ?_; intro gb197 hg w6 hbox hb; have n0_ := Aside0.mk (blk_below (g := gb196) (o := .cells #[.string a0_0, .int .i64 a0_1, .bool a0_2] 96 (0, 0)) zz29 hb); have n1_ := Aside0.mk (below_step zz41 hb); have n2_ := Aside0.mk (hbox); have n3_ := Aside0.mk ((by rw [hg]; exact (below_size zz41) : w.heap.size ≤ gb197)); have n4_ := Aside0.mk ((by rw [hg]; exact (below_size zz41) : w.heap.size ≤ gb197)); have n5_ := Aside0.mk ((zz76 : gb196 ≠ gb197)); have n6_ := Aside0.mk ((zz77 : gb197 ≠ gb196)); clear BK196; clear HB; have BK196 := n0_; have HB := n1_; have BK197 := n2_; have GW197 := n3_; have GE197 := n4_; have NB196_197 := n5_; have NB197_196 := n6_; clear n0_ n1_ n2_ n3_ n4_ n5_ n6_; clear hb hbox hg; have hnb7 := NB196_197.out; have hnc7 := NB197_196.out; have hcz8_0 : w6.cell? ⟨gb196, 0, none⟩ = some (.string a0_0) := (blk_cell BK196.out 0).trans rfl; have hcz8_1 : w6.cell? ⟨gb196, 1, none⟩ = some (.int .i64 a0_1) := (blk_cell BK196.out 1).trans rfl; have hcz8_2 : w6.cell? ⟨gb196, 2, none⟩ = some (.bool a0_2) := (blk_cell BK196.out 2).trans rfl; have hfz8_0 := blk_frozen BK196.out 0; have hfz8_1 := blk_frozen BK196.out 1; have hfz8_2 := blk_frozen BK196.out 2; have hcz9_0 : w6.cell? ⟨gb197, 0, none⟩ = some (.string (⟨#[]⟩ : ByteArray)) := (blk_cell BK197.out 0).trans rfl; have hcz9_1 : w6.cell? ⟨gb197, 1, none⟩ = some (.int .i64 0) := (blk_cell BK197.out 1).trans rfl; have hcz9_2 : w6.cell? ⟨gb197, 2, none⟩ = some (.bool false) := (blk_cell BK197.out 2).trans rfl; have hfz9_0 := blk_frozen BK197.out 0; have hfz9_1 := blk_frozen BK197.out 1; have hfz9_2 := blk_frozen BK197.out 2))
   refine bodyPost_ret (results_ct rfl _ _ gb197 96 #[.string a0_0, .int .i64 (wrap64 (a0_1 - 1)), .bool a0_2] (0, 0) _ rfl (by (with_reducible repeat (first | refine blk_drewN ?_ _ | refine blk_drew ?_ | refine blk_alloc ?_ _)); refine blk_put (cs := #[.string a0_0, .int .i64 (wrap64 (a0_1 - 1)), .bool false]) ?_ 2 _ rfl; (with_reducible repeat (first | refine blk_drewN ?_ _ | refine blk_drew ?_ | refine blk_alloc ?_ _)); refine blk_put (cs := #[.string a0_0, .int .i64 0, .bool false]) ?_ 1 _ rfl; (with_reducible repeat (first | refine blk_drewN ?_ _ | refine blk_drew ?_ | refine blk_alloc ?_ _)); refine blk_put (cs := #[.string (⟨#[]⟩ : ByteArray), .int .i64 0, .bool false]) ?_ 0 _ rfl; (with_reducible repeat (first | refine blk_drewN ?_ _ | refine blk_drew ?_ | refine blk_alloc ?_ _)); refine blk_far ?_ NB197_196.out _; (with_reducible repeat (first | refine blk_drewN ?_ _ | refine blk_drew ?_ | refine blk_alloc ?_ _)); exact BK197.out) Try.underlying96 rfl zz23) rfl ?_
   exact ⟨zz2, zz3⟩
  ·
   rw [if_neg c4] at H
   have c4b0 : (a1 == 90) = false := beq_eq_false_iff_ne.mpr c4
   have c4b1 : (a1 != 90) = true := bne_iff_ne.mpr c4
   simp only [Option.some.injEq, Prod.mk.injEq] at H
   obtain ⟨rfl, rfl, rfl, rfl⟩ := H
   go_enter Try.func104, Try.ntmps104
   go_wp2_with (first | ((with_reducible refine gate_dst (N := 2) rfl ?_); refine zzbx (N := 2) (cs := #[.string a0_0, .int .i64 a0_1, .bool a0_2]) (t := 96) ?_; intro gb196 hg w10 hbox hb; have n0_ := Aside0.mk (below_step zz0 hb); have n1_ := Aside0.mk (hbox); have n2_ := Aside0.mk ((zz12 : w.heap.size ≤ gb196)); have n3_ := Aside0.mk ((zz12 : w.heap.size ≤ gb196)); clear HB; have HB := n0_; have BK196 := n1_; have GW196 := n2_; have GE196 := n3_; clear n0_ n1_ n2_ n3_; clear hb hbox hg) | ((with_reducible refine gate_dst (N := 4) rfl ?_); refine zzbx (N := 4) (cs := #[.string (⟨#[]⟩ : ByteArray), .int .i64 0, .bool false]) (t := 96) ?_; intro gb197 hg w11 hbox hb; have n0_ := Aside0.mk (blk_below (g := gb196) (o := .cells #[.string a0_0, .int .i64 a0_1, .bool a0_2] 96 (0, 0)) zz29 hb); have n1_ := Aside0.mk (below_step zz41 hb); have n2_ := Aside0.mk (hbox); have n3_ := Aside0.mk ((by rw [hg]; exact (below_size zz41) : w.heap.size ≤ gb197)); have n4_ := Aside0.mk ((by rw [hg]; exact (below_size zz41) : w.heap.size ≤ gb197)); have n5_ := Aside0.mk ((zz76 : gb196 ≠ gb197)); have n6_ := Aside0.mk ((zz77 : gb197 ≠ gb196)); clear BK196; clear HB; have BK196 := n0_; have HB := n1_; have BK197 := n2_; have GW197 := n3_; have GE197 := n4_; have NB196_197 := n5_; have NB197_196 := n6_; clear n0_ n1_ n2_ n3_ n4_ n5_ n6_; clear hb hbox hg; have hnb12 := NB196_197.out; have hnc12 := NB197_196.out; have hcz13_0 : w11.cell? ⟨gb196, 0, none⟩ = some (.string a0_0) := (blk_cell BK196.out 0).trans rfl; have hcz13_1 : w11.cell? ⟨gb196, 1, none⟩ = some (.int .i64 a0_1) := (blk_cell BK196.out 1).trans rfl; have hcz13_2 : w11.cell? ⟨gb196, 2, none⟩ = some (.bool a0_2) := (blk_cell BK196.out 2).trans rfl; have hfz13_0 := blk_frozen BK196.out 0; have hfz13_1 := blk_frozen BK196.out 1; have hfz13_2 := blk_frozen BK196.out 2; have hcz14_0 : w11.cell? ⟨gb197, 0, none⟩ = some (.string (⟨#[]⟩ : ByteArray)) := (blk_cell BK197.out 0).trans rfl; have hcz14_1 : w11.cell? ⟨gb197, 1, none⟩ = some (.int .i64 0) := (blk_cell BK197.out 1).trans rfl; have hcz14_2 : w11.cell? ⟨gb197, 2, none⟩ = some (.bool false) := (blk_cell BK197.out 2).trans rfl; have hfz14_0 := blk_frozen BK197.out 0; have hfz14_1 := blk_frozen BK197.out 1; have hfz14_2 := blk_frozen BK197.out 2))
   refine bodyPost_ret (results_ct rfl _ _ gb197 96 #[.string (⟨#[]⟩ : ByteArray), .int .i64 0, .bool false] (0, 0) _ rfl zz30 Try.underlying96 rfl zz23) rfl ?_
   exact ⟨zz2, zz3⟩
 ·
  rw [if_neg c3] at H
  have c3b0 : ((wrap64 (a0_1 - 1)) == 0) = false := beq_eq_false_iff_ne.mpr c3
  have c3b1 : ((wrap64 (a0_1 - 1)) != 0) = true := bne_iff_ne.mpr c3
  have HC15 := Aside0.mk H
  clear H
  go_enter Try.func104, Try.ntmps104
  go_upto_region 6 with (first | ((with_reducible refine gate_dst (N := 2) rfl ?_); refine zzbx (N := 2) (cs := #[.string a0_0, .int .i64 a0_1, .bool a0_2]) (t := 96) ?_; intro gb196 hg w16 hbox hb; have n0_ := Aside0.mk (below_step zz0 hb); have n1_ := Aside0.mk (hbox); have n2_ := Aside0.mk ((zz12 : w.heap.size ≤ gb196)); have n3_ := Aside0.mk ((zz12 : w.heap.size ≤ gb196)); clear HB; have HB := n0_; have BK196 := n1_; have GW196 := n2_; have GE196 := n3_; clear n0_ n1_ n2_ n3_; clear hb hbox hg) | ((with_reducible refine gate_dst (N := 4) rfl ?_); refine zzbx (N := 4) (cs := #[.string (⟨#[]⟩ : ByteArray), .int .i64 0, .bool false]) (t := 96) ?_; intro gb197 hg w17 hbox hb; have n0_ := Aside0.mk (blk_below (g := gb196) (o := .cells #[.string a0_0, .int .i64 a0_1, .bool a0_2] 96 (0, 0)) zz29 hb); have n1_ := Aside0.mk (below_step zz41 hb); have n2_ := Aside0.mk (hbox); have n3_ := Aside0.mk ((by rw [hg]; exact (below_size zz41) : w.heap.size ≤ gb197)); have n4_ := Aside0.mk ((by rw [hg]; exact (below_size zz41) : w.heap.size ≤ gb197)); have n5_ := Aside0.mk ((zz76 : gb196 ≠ gb197)); have n6_ := Aside0.mk ((zz77 : gb197 ≠ gb196)); clear BK196; clear HB; have BK196 := n0_; have HB := n1_; have BK197 := n2_; have GW197 := n3_; have GE197 := n4_; have NB196_197 := n5_; have NB197_196 := n6_; clear n0_ n1_ n2_ n3_ n4_ n5_ n6_; clear hb hbox hg; have hnb18 := NB196_197.out; have hnc18 := NB197_196.out; have hcz19_0 : w17.cell? ⟨gb196, 0, none⟩ = some (.string a0_0) := (blk_cell BK196.out 0).trans rfl; have hcz19_1 : w17.cell? ⟨gb196, 1, none⟩ = some (.int .i64 a0_1) := (blk_cell BK196.out 1).trans rfl; have hcz19_2 : w17.cell? ⟨gb196, 2, none⟩ = some (.bool a0_2) := (blk_cell BK196.out 2).trans rfl; have hfz19_0 := blk_frozen BK196.out 0; have hfz19_1 := blk_frozen BK196.out 1; have hfz19_2 := blk_frozen BK196.out 2))
  (try simp only [Act.put, List.setIfInBounds_toArray, List.set_cons_zero, List.set_cons_succ])
  go_cut [22] (fun v22 wc => ∃ (kq : Nat) (x22_14 : Bool), v22 = .bool x22_14 ∧ Aside0 (when_State_Push.j0 kq a1 x22_14 a0_0 (wrap64 (a0_1 - 1)) a0_2 = some (r1, r2, r3, r4)) ∧ Aside0 (kq ≤ k) ∧ Aside0 (wc.heap[gb196]? = some (.cells #[.string a0_0, .int .i64 (wrap64 (a0_1 - 1)), .bool a0_2] 96 (0, 0))) ∧ Aside0 (wc.heap[gb197]? = some (.cells #[.string (⟨#[]⟩ : ByteArray), .int .i64 0, .bool false] 96 (0, 0))) ∧ Aside0 (Below w.heap.size w wc))
  case first =>
   have H := HC15.out
   clear HC15
   by_cases c20 : a1 < 48
   ·
    rw [if_pos c20] at H
    have c20b0 : decide (a1 < 48) = true := decide_eq_true c20
    clear c20
    (first | rw [c20b0] | (simp only [i64_w, i32_w]; rw [c20b0]) | skip)
    have H' := Aside0.mk H
    clear H
    go_wp2
    go_meet
    case rel => exact ⟨_, (true), zz1, H', ⟨zz49⟩, ⟨by (with_reducible repeat (first | refine blk_drewN ?_ _ | refine blk_drew ?_ | refine blk_alloc ?_ _)); refine blk_put (cs := #[.string a0_0, .int .i64 a0_1, .bool a0_2]) ?_ 1 _ rfl; (with_reducible repeat (first | refine blk_drewN ?_ _ | refine blk_drew ?_ | refine blk_alloc ?_ _)); exact BK196.out⟩, ⟨zz57⟩, ⟨zz3⟩⟩
   ·
    rw [if_neg c20] at H
    have c20b0 : decide (a1 < 48) = false := decide_eq_false c20
    clear c20
    (first | rw [c20b0] | (simp only [i64_w, i32_w]; rw [c20b0]) | skip)
    have H' := Aside0.mk H
    clear H
    go_wp2
    go_meet
    case rel => exact ⟨_, (decide (a1 > 57)), zz1, H', ⟨zz49⟩, ⟨by (with_reducible repeat (first | refine blk_drewN ?_ _ | refine blk_drew ?_ | refine blk_alloc ?_ _)); refine blk_put (cs := #[.string a0_0, .int .i64 a0_1, .bool a0_2]) ?_ 1 _ rfl; (with_reducible repeat (first | refine blk_drewN ?_ _ | refine blk_drew ?_ | refine blk_alloc ?_ _)); exact BK196.out⟩, ⟨zz57⟩, ⟨zz3⟩⟩
  case rest =>
   clear HC15
   try clear c1
   try clear c2
   try clear p2
   try clear c3
   try clear c3b0
   try clear c3b1
   try clear c4
   try clear c4b0
   try clear c4b1
   try clear p6
   try clear c7
   try clear c10
   try clear c12
   try clear c18
   try clear c20
   try clear c20b0
   try clear hcz13_0
   try clear hcz13_1
   try clear hcz13_2
   try clear hcz14_0
   try clear hcz14_1
   try clear hcz14_2
   try clear hcz19_0
   try clear hcz19_1
   try clear hcz19_2
   try clear hcz8_0
   try clear hcz8_1
   try clear hcz8_2
   try clear hcz9_0
   try clear hcz9_1
   try clear hcz9_2
   try clear hfz13_0
   try clear hfz13_1
   try clear hfz13_2
   try clear hfz14_0
   try clear hfz14_1
   try clear hfz14_2
   try clear hfz19_0
   try clear hfz19_1
   try clear hfz19_2
   try clear hfz8_0
   try clear hfz8_1
   try clear hfz8_2
   try clear hfz9_0
   try clear hfz9_1
   try clear hfz9_2
   obtain ⟨kq, x22_14, rfl, HA, HJ14, BK196, BK197, HB⟩ := hcut
   cases kq with
   | zero => exact absurd HA.out (by simp [when_State_Push.j0])
   | succ kj14 =>
     have H := HA.out
     clear HA
     simp only [when_State_Push.j0] at H
     by_cases c21 : x22_14 = true
     ·
      subst c21
      have H1 : (some ((⟨#[]⟩ : ByteArray), 0, false, false)) = some (r1, r2, r3, r4) := by rw [if_pos rfl] at H; exact H
      clear H
      have H := H1
      clear H1
      simp only [Option.some.injEq, Prod.mk.injEq] at H
      obtain ⟨rfl, rfl, rfl, rfl⟩ := H
      have hnb22 := NB197_196.out
      have hnc22 := NB196_197.out
      have hcz23_0 : wc.cell? ⟨gb197, 0, none⟩ = some (.string (⟨#[]⟩ : ByteArray)) := (blk_cell BK197.out 0).trans rfl
      have hcz23_1 : wc.cell? ⟨gb197, 1, none⟩ = some (.int .i64 0) := (blk_cell BK197.out 1).trans rfl
      have hcz23_2 : wc.cell? ⟨gb197, 2, none⟩ = some (.bool false) := (blk_cell BK197.out 2).trans rfl
      have hfz23_0 := blk_frozen BK197.out 0
      have hfz23_1 := blk_frozen BK197.out 1
      have hfz23_2 := blk_frozen BK197.out 2
      go_wp2
      refine bodyPost_ret (results_ct rfl _ _ gb197 96 #[.string (⟨#[]⟩ : ByteArray), .int .i64 0, .bool false] (0, 0) _ rfl (by (with_reducible repeat (first | refine blk_drewN ?_ _ | refine blk_drew ?_ | refine blk_alloc ?_ _)); refine blk_put (cs := #[.string (⟨#[]⟩ : ByteArray), .int .i64 0, .bool false]) ?_ 2 _ rfl; (with_reducible repeat (first | refine blk_drewN ?_ _ | refine blk_drew ?_ | refine blk_alloc ?_ _)); refine blk_put (cs := #[.string (⟨#[]⟩ : ByteArray), .int .i64 0, .bool false]) ?_ 1 _ rfl; (with_reducible repeat (first | refine blk_drewN ?_ _ | refine blk_drew ?_ | refine blk_alloc ?_ _)); refine blk_put (cs := #[.string (⟨#[]⟩ : ByteArray), .int .i64 0, .bool false]) ?_ 0 _ rfl; (with_reducible repeat (first | refine blk_drewN ?_ _ | refine blk_drew ?_ | refine blk_alloc ?_ _)); exact BK197.out) Try.underlying96 rfl zz23) rfl ?_
      exact ⟨zz2, zz3⟩
     ·
      replace c21 := Bool.eq_false_iff.mpr c21
      subst c21
      have H1 : (if a0_2 = true then (when_State_Push.j1 kj14 a1 (a0_0.toList == ([] : List UInt8)) a0_0 (wrap64 (a0_1 - 1)) a0_2) else (when_State_Push.j1 kj14 a1 false a0_0 (wrap64 (a0_1 - 1)) a0_2)) = some (r1, r2, r3, r4) := by rw [if_neg (show ¬ (false = true) by decide)] at H; exact H
      clear H
      have H := H1
      clear H1
      have HC24 := Aside0.mk H
      clear H
      go_upto_region 8 with (fail)
      go_cut [30] (fun v30 wc => ∃ (kq : Nat) (x30_23 : Bool), v30 = .bool x30_23 ∧ Aside0 (when_State_Push.j1 kq a1 x30_23 a0_0 (wrap64 (a0_1 - 1)) a0_2 = some (r1, r2, r3, r4)) ∧ Aside0 (kq ≤ kj14) ∧ Aside0 (wc.heap[gb196]? = some (.cells #[.string a0_0, .int .i64 (wrap64 (a0_1 - 1)), .bool a0_2] 96 (0, 0))) ∧ Aside0 (wc.heap[gb197]? = some (.cells #[.string (⟨#[]⟩ : ByteArray), .int .i64 0, .bool false] 96 (0, 0))) ∧ Aside0 (Below w.heap.size w wc))
      case first =>
       have H := HC24.out
       clear HC24
       by_cases c25 : a0_2 = true
       ·
        subst c25
        have H1 : (when_State_Push.j1 kj14 a1 (a0_0.toList == ([] : List UInt8)) a0_0 (wrap64 (a0_1 - 1)) true) = some (r1, r2, r3, r4) := by rw [if_pos rfl] at H; exact H
        clear H
        have H := H1
        clear H1
        have H' := Aside0.mk H
        clear H
        have hnb26 := NB196_197.out
        have hnc26 := NB197_196.out
        have hcz27_0 : wc.cell? ⟨gb196, 0, none⟩ = some (.string a0_0) := (blk_cell BK196.out 0).trans rfl
        have hcz27_1 : wc.cell? ⟨gb196, 1, none⟩ = some (.int .i64 (wrap64 (a0_1 - 1))) := (blk_cell BK196.out 1).trans rfl
        have hcz27_2 : wc.cell? ⟨gb196, 2, none⟩ = some (.bool true) := (blk_cell BK196.out 2).trans rfl
        have hfz27_0 := blk_frozen BK196.out 0
        have hfz27_1 := blk_frozen BK196.out 1
        have hfz27_2 := blk_frozen BK196.out 2
        go_wp2
        go_meet
        case rel => exact ⟨_, ((a0_0.toList == ([] : List UInt8))), zz1, H', ⟨by have := HJ14.out; first | omega | exact Nat.le_refl _⟩, ⟨zz29⟩, ⟨zz53⟩, ⟨zz3⟩⟩
       ·
        replace c25 := Bool.eq_false_iff.mpr c25
        subst c25
        have H1 : (when_State_Push.j1 kj14 a1 false a0_0 (wrap64 (a0_1 - 1)) false) = some (r1, r2, r3, r4) := by rw [if_neg (show ¬ (false = true) by decide)] at H; exact H
        clear H
        have H := H1
        clear H1
        have H' := Aside0.mk H
        clear H
        have hnb28 := NB196_197.out
        have hnc28 := NB197_196.out
        have hcz29_0 : wc.cell? ⟨gb196, 0, none⟩ = some (.string a0_0) := (blk_cell BK196.out 0).trans rfl
        have hcz29_1 : wc.cell? ⟨gb196, 1, none⟩ = some (.int .i64 (wrap64 (a0_1 - 1))) := (blk_cell BK196.out 1).trans rfl
        have hcz29_2 : wc.cell? ⟨gb196, 2, none⟩ = some (.bool false) := (blk_cell BK196.out 2).trans rfl
        have hfz29_0 := blk_frozen BK196.out 0
        have hfz29_1 := blk_frozen BK196.out 1
        have hfz29_2 := blk_frozen BK196.out 2
        go_wp2
        go_meet
        case rel => exact ⟨_, (false), zz1, H', ⟨by have := HJ14.out; first | omega | exact Nat.le_refl _⟩, ⟨zz29⟩, ⟨zz53⟩, ⟨zz3⟩⟩
      case rest =>
       clear HC24
       try clear c1
       try clear c2
       try clear p2
       try clear c3
       try clear c3b0
       try clear c3b1
       try clear c4
       try clear c4b0
       try clear c4b1
       try clear p6
       try clear c7
       try clear c10
       try clear c12
       try clear c18
       try clear c20
       try clear c20b0
       try clear c21
       try clear c22
       try clear c25
       try clear c26
       try clear c28
       try clear hcz13_0
       try clear hcz13_1
       try clear hcz13_2
       try clear hcz14_0
       try clear hcz14_1
       try clear hcz14_2
       try clear hcz19_0
       try clear hcz19_1
       try clear hcz19_2
       try clear hcz23_0
       try clear hcz23_1
       try clear hcz23_2
       try clear hcz27_0
       try clear hcz27_1
       try clear hcz27_2
       try clear hcz29_0
       try clear hcz29_1
       try clear hcz29_2
       try clear hcz8_0
       try clear hcz8_1
       try clear hcz8_2
       try clear hcz9_0
       try clear hcz9_1
       try clear hcz9_2
       try clear hfz13_0
       try clear hfz13_1
       try clear hfz13_2
       try clear hfz14_0
       try clear hfz14_1
       try clear hfz14_2
       try clear hfz19_0
       try clear hfz19_1
       try clear hfz19_2
       try clear hfz23_0
       try clear hfz23_1
       try clear hfz23_2
       try clear hfz27_0
       try clear hfz27_1
       try clear hfz27_2
       try clear hfz29_0
       try clear hfz29_1
       try clear hfz29_2
       try clear hfz8_0
       try clear hfz8_1
       try clear hfz8_2
       try clear hfz9_0
       try clear hfz9_1
       try clear hfz9_2
       try clear p2
       try clear p6
       obtain ⟨kq, x30_23, rfl, HA, HJ23, BK196, BK197, HB⟩ := hcut
       cases kq with
       | zero => exact absurd HA.out (by simp [when_State_Push.j1])
       | succ kj23 =>
         have H := HA.out
         clear HA
         simp only [when_State_Push.j1] at H
         have HC30 := Aside0.mk H
         clear H
         go_upto_if 30 with (fail)
         go_cut [] (fun wc => ∃ (kq : Nat) (x197000_29 : ByteArray), Aside0 (when_State_Push.j2 kq a1 x197000_29 (wrap64 (a0_1 - 1)) a0_2 = some (r1, r2, r3, r4)) ∧ Aside0 (kq ≤ kj23) ∧ Aside0 (wc.heap[gb196]? = some (.cells #[.string x197000_29, .int .i64 (wrap64 (a0_1 - 1)), .bool a0_2] 96 (0, 0))) ∧ Aside0 (wc.heap[gb197]? = some (.cells #[.string (⟨#[]⟩ : ByteArray), .int .i64 0, .bool false] 96 (0, 0))) ∧ Aside0 (Below w.heap.size w wc))
         case first =>
          have H := HC30.out
          clear HC30
          by_cases c31 : x30_23 = true
          ·
           subst c31
           have H1 : (if a1 ≥ 53 then (when_State_Push.j2 kj23 a1 (⟨#[49, 57]⟩ : ByteArray) (wrap64 (a0_1 - 1)) a0_2) else (when_State_Push.j2 kj23 a1 (⟨#[50, 48]⟩ : ByteArray) (wrap64 (a0_1 - 1)) a0_2)) = some (r1, r2, r3, r4) := by rw [if_pos rfl] at H; exact H
           clear H
           have H := H1
           clear H1
           by_cases c32 : a1 ≥ 53
           ·
            rw [if_pos c32] at H
            have c32b0 : decide (53 ≤ a1) = true := decide_eq_true c32
            clear c32
            (first | rw [c32b0] | (simp only [i64_w, i32_w]; rw [c32b0]) | skip)
            have H' := Aside0.mk H
            clear H
            have hnb33 := NB196_197.out
            have hnc33 := NB197_196.out
            have hcz34_0 : wc.cell? ⟨gb196, 0, none⟩ = some (.string a0_0) := (blk_cell BK196.out 0).trans rfl
            have hcz34_1 : wc.cell? ⟨gb196, 1, none⟩ = some (.int .i64 (wrap64 (a0_1 - 1))) := (blk_cell BK196.out 1).trans rfl
            have hcz34_2 : wc.cell? ⟨gb196, 2, none⟩ = some (.bool a0_2) := (blk_cell BK196.out 2).trans rfl
            have hfz34_0 := blk_frozen BK196.out 0
            have hfz34_1 := blk_frozen BK196.out 1
            have hfz34_2 := blk_frozen BK196.out 2
            go_wp2
            go_meet
            case rel => exact ⟨_, ((⟨#[49, 57]⟩ : ByteArray)), H', ⟨by have := HJ14.out; have := HJ23.out; first | omega | exact Nat.le_refl _⟩, ⟨by (with_reducible repeat (first | refine blk_drewN ?_ _ | refine blk_drew ?_ | refine blk_alloc ?_ _)); refine blk_put (cs := #[.string (⟨#[50, 48]⟩ : ByteArray), .int .i64 (wrap64 (a0_1 - 1)), .bool a0_2]) ?_ 0 _ rfl; (with_reducible repeat (first | refine blk_drewN ?_ _ | refine blk_drew ?_ | refine blk_alloc ?_ _)); refine blk_put (cs := #[.string a0_0, .int .i64 (wrap64 (a0_1 - 1)), .bool a0_2]) ?_ 0 _ rfl; (with_reducible repeat (first | refine blk_drewN ?_ _ | refine blk_drew ?_ | refine blk_alloc ?_ _)); exact BK196.out⟩, ⟨by (with_reducible repeat (first | refine blk_drewN ?_ _ | refine blk_drew ?_ | refine blk_alloc ?_ _)); refine blk_far ?_ NB197_196.out _; (with_reducible repeat (first | refine blk_drewN ?_ _ | refine blk_drew ?_ | refine blk_alloc ?_ _)); refine blk_far ?_ NB197_196.out _; (with_reducible repeat (first | refine blk_drewN ?_ _ | refine blk_drew ?_ | refine blk_alloc ?_ _)); exact BK197.out⟩, ⟨zz3⟩⟩
           ·
            rw [if_neg c32] at H
            have c32b0 : decide (53 ≤ a1) = false := decide_eq_false c32
            clear c32
            (first | rw [c32b0] | (simp only [i64_w, i32_w]; rw [c32b0]) | skip)
            have H' := Aside0.mk H
            clear H
            have hnb35 := NB196_197.out
            have hnc35 := NB197_196.out
            have hcz36_0 : wc.cell? ⟨gb196, 0, none⟩ = some (.string a0_0) := (blk_cell BK196.out 0).trans rfl
            have hcz36_1 : wc.cell? ⟨gb196, 1, none⟩ = some (.int .i64 (wrap64 (a0_1 - 1))) := (blk_cell BK196.out 1).trans rfl
            have hcz36_2 : wc.cell? ⟨gb196, 2, none⟩ = some (.bool a0_2) := (blk_cell BK196.out 2).trans rfl
            have hfz36_0 := blk_frozen BK196.out 0
            have hfz36_1 := blk_frozen BK196.out 1
            have hfz36_2 := blk_frozen BK196.out 2
            go_wp2
            go_meet
            case rel => exact ⟨_, ((⟨#[50, 48]⟩ : ByteArray)), H', ⟨by have := HJ14.out; have := HJ23.out; first | omega | exact Nat.le_refl _⟩, ⟨by (with_reducible repeat (first | refine blk_drewN ?_ _ | refine blk_drew ?_ | refine blk_alloc ?_ _)); refine blk_put (cs := #[.string a0_0, .int .i64 (wrap64 (a0_1 - 1)), .bool a0_2]) ?_ 0 _ rfl; (with_reducible repeat (first | refine blk_drewN ?_ _ | refine blk_drew ?_ | refine blk_alloc ?_ _)); exact BK196.out⟩, ⟨zz57⟩, ⟨zz3⟩⟩
          ·
           replace c31 := Bool.eq_false_iff.mpr c31
           subst c31
           have H1 : (when_State_Push.j2 kj23 a1 a0_0 (wrap64 (a0_1 - 1)) a0_2) = some (r1, r2, r3, r4) := by rw [if_neg (show ¬ (false = true) by decide)] at H; exact H
           clear H
           have H := H1
           clear H1
           have H' := Aside0.mk H
           clear H
           go_wp2
           go_meet
           case rel => exact ⟨_, (a0_0), H', ⟨by have := HJ14.out; have := HJ23.out; first | omega | exact Nat.le_refl _⟩, ⟨zz29⟩, ⟨zz53⟩, ⟨zz3⟩⟩
         case rest =>
          clear HC30
          try clear c1
          try clear c2
          try clear p2
          try clear c3
          try clear c3b0
          try clear c3b1
          try clear c4
          try clear c4b0
          try clear c4b1
          try clear p6
          try clear c7
          try clear c10
          try clear c12
          try clear c18
          try clear c20
          try clear c20b0
          try clear c21
          try clear c22
          try clear c25
          try clear c26
          try clear c28
          try clear c31
          try clear c32
          try clear c32b0
          try clear c33
          try clear c35
          try clear hcz13_0
          try clear hcz13_1
          try clear hcz13_2
          try clear hcz14_0
          try clear hcz14_1
          try clear hcz14_2
          try clear hcz19_0
          try clear hcz19_1
          try clear hcz19_2
          try clear hcz23_0
          try clear hcz23_1
          try clear hcz23_2
          try clear hcz27_0
          try clear hcz27_1
          try clear hcz27_2
          try clear hcz29_0
          try clear hcz29_1
          try clear hcz29_2
          try clear hcz34_0
          try clear hcz34_1
          try clear hcz34_2
          try clear hcz36_0
          try clear hcz36_1
          try clear hcz36_2
          try clear hcz8_0
          try clear hcz8_1
          try clear hcz8_2
          try clear hcz9_0
          try clear hcz9_1
          try clear hcz9_2
          try clear hfz13_0
          try clear hfz13_1
          try clear hfz13_2
          try clear hfz14_0
          try clear hfz14_1
          try clear hfz14_2
          try clear hfz19_0
          try clear hfz19_1
          try clear hfz19_2
          try clear hfz23_0
          try clear hfz23_1
          try clear hfz23_2
          try clear hfz27_0
          try clear hfz27_1
          try clear hfz27_2
          try clear hfz29_0
          try clear hfz29_1
          try clear hfz29_2
          try clear hfz34_0
          try clear hfz34_1
          try clear hfz34_2
          try clear hfz36_0
          try clear hfz36_1
          try clear hfz36_2
          try clear hfz8_0
          try clear hfz8_1
          try clear hfz8_2
          try clear hfz9_0
          try clear hfz9_1
          try clear hfz9_2
          try clear p2
          try clear p6
          obtain ⟨kq, x197000_29, HA, HJ29, BK196, BK197, HB⟩ := hcut
          cases kq with
          | zero => exact absurd HA.out (by simp [when_State_Push.j2])
          | succ kj29 =>
            have H := HA.out
            clear HA
            simp only [when_State_Push.j2] at H
            obtain ⟨y198, hy198⟩ : ∃ y_ : List Int, y_ = (([a1] : List Int)) := ⟨_, rfl⟩
            replace H : (if x197000_29.size + (strOfNums y198).size ≤ 9223372036854775807 then ((when_may.f kj29 (x197000_29 ++ (strOfNums y198))).bind fun t201 => (if t201 = true then (if a0_2 = true then (some (x197000_29 ++ (strOfNums y198), (wrap64 (a0_1 - 1)), a0_2, true)) else ((when_late.f kj29 (x197000_29 ++ (strOfNums y198))).bind fun t202 => (if t202 = true then (some (x197000_29 ++ (strOfNums y198), (wrap64 (a0_1 - 1)), a0_2, true)) else (some ((⟨#[]⟩ : ByteArray), 0, false, false))))) else (some ((⟨#[]⟩ : ByteArray), 0, false, false)))) else (none)) = some (r1, r2, r3, r4) := by first | (rw [hy198]; with_reducible exact H) | (have H2_ := (Option.bind_some _ _).symm.trans H; rw [hy198]; with_reducible exact H2_) | (have H2_ := (Option.bind_some _ _).symm.trans H; with_reducible exact H2_) | with_reducible exact H | (rw [hy198]; exact H) | exact H
            have Ny198 := Aside0.mk hy198
            clear hy198
            by_cases c37 : x197000_29.size + (strOfNums y198).size ≤ 9223372036854775807
            ·
             rw [if_pos c37] at H
             have c37b0 := eq_true c37
             have c37b1 : decide (x197000_29.size + (strOfNums y198).size ≤ 9223372036854775807) = true := decide_eq_true c37
             try have c37b2 : (9223372036854775807 < x197000_29.size + (strOfNums y198).size) = False := eq_false (Nat.not_lt.2 c37)
             replace H := Option.bind_eq_some_iff.mp H
             obtain ⟨t201, A380, H⟩ := H
             replace H : (if t201 = true then (if a0_2 = true then (some (x197000_29 ++ (strOfNums y198), (wrap64 (a0_1 - 1)), a0_2, true)) else ((when_late.f kj29 (x197000_29 ++ (strOfNums y198))).bind fun t202 => (if t202 = true then (some (x197000_29 ++ (strOfNums y198), (wrap64 (a0_1 - 1)), a0_2, true)) else (some ((⟨#[]⟩ : ByteArray), 0, false, false))))) else (some ((⟨#[]⟩ : ByteArray), 0, false, false))) = some (r1, r2, r3, r4) := H
             have A38 := Aside0.mk A380
             clear A380
             by_cases c39 : t201 = true
             ·
              subst c39
              have H1 : (if a0_2 = true then (some (x197000_29 ++ (strOfNums y198), (wrap64 (a0_1 - 1)), a0_2, true)) else ((when_late.f kj29 (x197000_29 ++ (strOfNums y198))).bind fun t202 => (if t202 = true then (some (x197000_29 ++ (strOfNums y198), (wrap64 (a0_1 - 1)), a0_2, true)) else (some ((⟨#[]⟩ : ByteArray), 0, false, false))))) = some (r1, r2, r3, r4) := by rw [if_pos rfl] at H; exact H
              clear H
              have H := H1
              clear H1
              by_cases c40 : a0_2 = true
              ·
               subst c40
               have H1 : (some (x197000_29 ++ (strOfNums y198), (wrap64 (a0_1 - 1)), true, true)) = some (r1, r2, r3, r4) := by rw [if_pos rfl] at H; exact H
               clear H
               have H := H1
               clear H1
               simp only [Option.some.injEq, Prod.mk.injEq] at H
               obtain ⟨rfl, rfl, rfl, rfl⟩ := H
               have hnb41 := NB196_197.out
               have hnc41 := NB197_196.out
               have hcz42_0 : wc.cell? ⟨gb196, 0, none⟩ = some (.string x197000_29) := (blk_cell BK196.out 0).trans rfl
               have hcz42_1 : wc.cell? ⟨gb196, 1, none⟩ = some (.int .i64 (wrap64 (a0_1 - 1))) := (blk_cell BK196.out 1).trans rfl
               have hcz42_2 : wc.cell? ⟨gb196, 2, none⟩ = some (.bool true) := (blk_cell BK196.out 2).trans rfl
               have hfz42_0 := blk_frozen BK196.out 0
               have hfz42_1 := blk_frozen BK196.out 1
               have hfz42_2 := blk_frozen BK196.out 2
               go_wp2_with (first | ((with_reducible refine gate_dst (N := 38) rfl ?_); refine Kd.R_lit (Kd.int .u8) _ 5 ?hg (N := 38) ?hd (xs := ([a1] : List Int)) (inner := [.int .u8 a1]) (ok := fun _ => True) (okp := fun _ => True) ?hr ?hp (fun _ hk => hk) trivial (Below.refl _ _) (Nat.le_refl _) zz56 ?_; (case hd => rfl); (case hg => rfl); (case hr => first | (go_simp; done) | (go_simp; rfl)); (case hp => exact (Reps.one (show Kd.M (Kd.int .u8) _ _ _ a1 [.int .u8 a1] from rfl) (Reps.none _ _))); intro v199 w43 ho44 hb hg_ hnew_; clear hg_ hnew_; (first | rw [← Ny198.out] at ho44 | (simp only [Int.reduceToNat] at ho44; rw [← Ny198.out] at ho44)); have n0_ := Aside0.mk (Kd.R_lower ho44 (below_size zz3)); have n1_ := Aside0.mk (blk_below (g := gb196) (o := .cells #[.string x197000_29, .int .i64 (wrap64 (a0_1 - 1)), .bool true] 96 (0, 0)) zz29 hb); have n2_ := Aside0.mk (blk_below (g := gb197) (o := .cells #[.string (⟨#[]⟩ : ByteArray), .int .i64 0, .bool false] 96 (0, 0)) zz53 hb); have n3_ := Aside0.mk (below_step zz3 hb); clear BK196; clear BK197; clear HB; have HO200 := n0_; have BK196 := n1_; have BK197 := n2_; have HB := n3_; clear n0_ n1_ n2_ n3_; clear hb ho44; have hcv45 := own_string (P := Try.prog) Try.underlying52 Try.underlying5 Try.underlying9 (Kd.own_of_R HO200.out); have hcz46_0 : w43.cell? ⟨gb196, 0, none⟩ = some (.string x197000_29) := (blk_cell BK196.out 0).trans rfl; have hcz46_1 : w43.cell? ⟨gb196, 1, none⟩ = some (.int .i64 (wrap64 (a0_1 - 1))) := (blk_cell BK196.out 1).trans rfl; have hcz46_2 : w43.cell? ⟨gb196, 2, none⟩ = some (.bool true) := (blk_cell BK196.out 2).trans rfl; have hfz46_0 := blk_frozen BK196.out 0; have hfz46_1 := blk_frozen BK196.out 1; have hfz46_2 := blk_frozen BK196.out 2) | ((with_reducible refine gate_callee (f := 105) rfl ?_); refine goesL_ (some 44) rfl rfl Try.func105 zz23 rfl #[.string (x197000_29 ++ (strOfNums y198))] rfl zz39 ?_; (with_reducible refine (when_may.calls kj29 (x197000_29 ++ (strOfNums y198)) true _ A38.out).mono ?_); rintro e w' ⟨rfl, ⟨nd, rfl⟩⟩; refine ⟨_, rfl, ?_⟩; have hcz47_0 : w43.cell? ⟨gb197, 0, none⟩ = some (.string (⟨#[]⟩ : ByteArray)) := (blk_cell BK197.out 0).trans rfl; have hcz47_1 : w43.cell? ⟨gb197, 1, none⟩ = some (.int .i64 0) := (blk_cell BK197.out 1).trans rfl; have hcz47_2 : w43.cell? ⟨gb197, 2, none⟩ = some (.bool false) := (blk_cell BK197.out 2).trans rfl; have hfz47_0 := blk_frozen BK197.out 0; have hfz47_1 := blk_frozen BK197.out 1; have hfz47_2 := blk_frozen BK197.out 2))
               refine bodyPost_ret (results_ct rfl _ _ gb197 96 #[.string (x197000_29 ++ (strOfNums y198)), .int .i64 (wrap64 (a0_1 - 1)), .bool true] (0, 0) _ rfl (by (with_reducible repeat (first | refine blk_drewN ?_ _ | refine blk_drew ?_ | refine blk_alloc ?_ _)); refine blk_put (cs := #[.string (x197000_29 ++ (strOfNums y198)), .int .i64 (wrap64 (a0_1 - 1)), .bool false]) ?_ 2 _ rfl; (with_reducible repeat (first | refine blk_drewN ?_ _ | refine blk_drew ?_ | refine blk_alloc ?_ _)); refine blk_put (cs := #[.string (x197000_29 ++ (strOfNums y198)), .int .i64 0, .bool false]) ?_ 1 _ rfl; (with_reducible repeat (first | refine blk_drewN ?_ _ | refine blk_drew ?_ | refine blk_alloc ?_ _)); refine blk_put (cs := #[.string (⟨#[]⟩ : ByteArray), .int .i64 0, .bool false]) ?_ 0 _ rfl; (with_reducible repeat (first | refine blk_drewN ?_ _ | refine blk_drew ?_ | refine blk_alloc ?_ _)); refine blk_far ?_ NB197_196.out _; (with_reducible repeat (first | refine blk_drewN ?_ _ | refine blk_drew ?_ | refine blk_alloc ?_ _)); exact BK197.out) Try.underlying96 rfl zz23) rfl ?_
               exact ⟨zz2, zz3⟩
              ·
               replace c40 := Bool.eq_false_iff.mpr c40
               subst c40
               have H1 : ((when_late.f kj29 (x197000_29 ++ (strOfNums y198))).bind fun t202 => (if t202 = true then (some (x197000_29 ++ (strOfNums y198), (wrap64 (a0_1 - 1)), false, true)) else (some ((⟨#[]⟩ : ByteArray), 0, false, false)))) = some (r1, r2, r3, r4) := by rw [if_neg (show ¬ (false = true) by decide)] at H; exact H
               clear H
               have H := H1
               clear H1
               replace H := Option.bind_eq_some_iff.mp H
               obtain ⟨t202, A480, H⟩ := H
               replace H : (if t202 = true then (some (x197000_29 ++ (strOfNums y198), (wrap64 (a0_1 - 1)), false, true)) else (some ((⟨#[]⟩ : ByteArray), 0, false, false))) = some (r1, r2, r3, r4) := H
               have A48 := Aside0.mk A480
               clear A480
               by_cases c49 : t202 = true
               ·
                subst c49
                have H1 : (some (x197000_29 ++ (strOfNums y198), (wrap64 (a0_1 - 1)), false, true)) = some (r1, r2, r3, r4) := by rw [if_pos rfl] at H; exact H
                clear H
                have H := H1
                clear H1
                simp only [Option.some.injEq, Prod.mk.injEq] at H
                obtain ⟨rfl, rfl, rfl, rfl⟩ := H
                have hnb50 := NB196_197.out
                have hnc50 := NB197_196.out
                have hcz51_0 : wc.cell? ⟨gb196, 0, none⟩ = some (.string x197000_29) := (blk_cell BK196.out 0).trans rfl
                have hcz51_1 : wc.cell? ⟨gb196, 1, none⟩ = some (.int .i64 (wrap64 (a0_1 - 1))) := (blk_cell BK196.out 1).trans rfl
                have hcz51_2 : wc.cell? ⟨gb196, 2, none⟩ = some (.bool false) := (blk_cell BK196.out 2).trans rfl
                have hfz51_0 := blk_frozen BK196.out 0
                have hfz51_1 := blk_frozen BK196.out 1
                have hfz51_2 := blk_frozen BK196.out 2
                go_wp2_with (first | ((with_reducible refine gate_dst (N := 38) rfl ?_); refine Kd.R_lit (Kd.int .u8) _ 5 ?hg (N := 38) ?hd (xs := ([a1] : List Int)) (inner := [.int .u8 a1]) (ok := fun _ => True) (okp := fun _ => True) ?hr ?hp (fun _ hk => hk) trivial (Below.refl _ _) (Nat.le_refl _) zz56 ?_; (case hd => rfl); (case hg => rfl); (case hr => first | (go_simp; done) | (go_simp; rfl)); (case hp => exact (Reps.one (show Kd.M (Kd.int .u8) _ _ _ a1 [.int .u8 a1] from rfl) (Reps.none _ _))); intro v199 w52 ho53 hb hg_ hnew_; clear hg_ hnew_; (first | rw [← Ny198.out] at ho53 | (simp only [Int.reduceToNat] at ho53; rw [← Ny198.out] at ho53)); have n0_ := Aside0.mk (Kd.R_lower ho53 (below_size zz3)); have n1_ := Aside0.mk (blk_below (g := gb196) (o := .cells #[.string x197000_29, .int .i64 (wrap64 (a0_1 - 1)), .bool false] 96 (0, 0)) zz29 hb); have n2_ := Aside0.mk (blk_below (g := gb197) (o := .cells #[.string (⟨#[]⟩ : ByteArray), .int .i64 0, .bool false] 96 (0, 0)) zz53 hb); have n3_ := Aside0.mk (below_step zz3 hb); clear BK196; clear BK197; clear HB; have HO200 := n0_; have BK196 := n1_; have BK197 := n2_; have HB := n3_; clear n0_ n1_ n2_ n3_; clear hb ho53; have hcv54 := own_string (P := Try.prog) Try.underlying52 Try.underlying5 Try.underlying9 (Kd.own_of_R HO200.out); have hcz55_0 : w52.cell? ⟨gb196, 0, none⟩ = some (.string x197000_29) := (blk_cell BK196.out 0).trans rfl; have hcz55_1 : w52.cell? ⟨gb196, 1, none⟩ = some (.int .i64 (wrap64 (a0_1 - 1))) := (blk_cell BK196.out 1).trans rfl; have hcz55_2 : w52.cell? ⟨gb196, 2, none⟩ = some (.bool false) := (blk_cell BK196.out 2).trans rfl; have hfz55_0 := blk_frozen BK196.out 0; have hfz55_1 := blk_frozen BK196.out 1; have hfz55_2 := blk_frozen BK196.out 2) | ((with_reducible refine gate_callee (f := 105) rfl ?_); refine goesL_ (some 44) rfl rfl Try.func105 zz23 rfl #[.string (x197000_29 ++ (strOfNums y198))] rfl zz39 ?_; (with_reducible refine (when_may.calls kj29 (x197000_29 ++ (strOfNums y198)) true _ A38.out).mono ?_); rintro e w' ⟨rfl, ⟨nd, rfl⟩⟩; refine ⟨_, rfl, ?_⟩) | (go_at_call 106; (with_reducible refine (when_late.calls kj29 (x197000_29 ++ (strOfNums y198)) true _ A48.out).mono ?_); rintro e w' ⟨rfl, ⟨nd, rfl⟩⟩; have hcz56_0 : w52.cell? ⟨gb197, 0, none⟩ = some (.string (⟨#[]⟩ : ByteArray)) := (blk_cell BK197.out 0).trans rfl; have hcz56_1 : w52.cell? ⟨gb197, 1, none⟩ = some (.int .i64 0) := (blk_cell BK197.out 1).trans rfl; have hcz56_2 : w52.cell? ⟨gb197, 2, none⟩ = some (.bool false) := (blk_cell BK197.out 2).trans rfl; have hfz56_0 := blk_frozen BK197.out 0; have hfz56_1 := blk_frozen BK197.out 1; have hfz56_2 := blk_frozen BK197.out 2))
                refine bodyPost_ret (results_ct rfl _ _ gb197 96 #[.string (x197000_29 ++ (strOfNums y198)), .int .i64 (wrap64 (a0_1 - 1)), .bool false] (0, 0) _ rfl (by (with_reducible repeat (first | refine blk_drewN ?_ _ | refine blk_drew ?_ | refine blk_alloc ?_ _)); refine blk_put (cs := #[.string (x197000_29 ++ (strOfNums y198)), .int .i64 (wrap64 (a0_1 - 1)), .bool false]) ?_ 2 _ rfl; (with_reducible repeat (first | refine blk_drewN ?_ _ | refine blk_drew ?_ | refine blk_alloc ?_ _)); refine blk_put (cs := #[.string (x197000_29 ++ (strOfNums y198)), .int .i64 0, .bool false]) ?_ 1 _ rfl; (with_reducible repeat (first | refine blk_drewN ?_ _ | refine blk_drew ?_ | refine blk_alloc ?_ _)); refine blk_put (cs := #[.string (⟨#[]⟩ : ByteArray), .int .i64 0, .bool false]) ?_ 0 _ rfl; (with_reducible repeat (first | refine blk_drewN ?_ _ | refine blk_drew ?_ | refine blk_alloc ?_ _)); refine blk_far ?_ NB197_196.out _; (with_reducible repeat (first | refine blk_drewN ?_ _ | refine blk_drew ?_ | refine blk_alloc ?_ _)); exact BK197.out) Try.underlying96 rfl zz23) rfl ?_
                exact ⟨zz2, zz3⟩
               ·
                replace c49 := Bool.eq_false_iff.mpr c49
                subst c49
                have H1 : (some ((⟨#[]⟩ : ByteArray), 0, false, false)) = some (r1, r2, r3, r4) := by rw [if_neg (show ¬ (false = true) by decide)] at H; exact H
                clear H
                have H := H1
                clear H1
                simp only [Option.some.injEq, Prod.mk.injEq] at H
                obtain ⟨rfl, rfl, rfl, rfl⟩ := H
                have hnb57 := NB196_197.out
                have hnc57 := NB197_196.out
                have hcz58_0 : wc.cell? ⟨gb196, 0, none⟩ = some (.string x197000_29) := (blk_cell BK196.out 0).trans rfl
                have hcz58_1 : wc.cell? ⟨gb196, 1, none⟩ = some (.int .i64 (wrap64 (a0_1 - 1))) := (blk_cell BK196.out 1).trans rfl
                have hcz58_2 : wc.cell? ⟨gb196, 2, none⟩ = some (.bool false) := (blk_cell BK196.out 2).trans rfl
                have hfz58_0 := blk_frozen BK196.out 0
                have hfz58_1 := blk_frozen BK196.out 1
                have hfz58_2 := blk_frozen BK196.out 2
                go_wp2_with (first | ((with_reducible refine gate_dst (N := 38) rfl ?_); refine Kd.R_lit (Kd.int .u8) _ 5 ?hg (N := 38) ?hd (xs := ([a1] : List Int)) (inner := [.int .u8 a1]) (ok := fun _ => True) (okp := fun _ => True) ?hr ?hp (fun _ hk => hk) trivial (Below.refl _ _) (Nat.le_refl _) zz56 ?_; (case hd => rfl); (case hg => rfl); (case hr => first | (go_simp; done) | (go_simp; rfl)); (case hp => exact (Reps.one (show Kd.M (Kd.int .u8) _ _ _ a1 [.int .u8 a1] from rfl) (Reps.none _ _))); intro v199 w59 ho60 hb hg_ hnew_; clear hg_ hnew_; (first | rw [← Ny198.out] at ho60 | (simp only [Int.reduceToNat] at ho60; rw [← Ny198.out] at ho60)); have n0_ := Aside0.mk (Kd.R_lower ho60 (below_size zz3)); have n1_ := Aside0.mk (blk_below (g := gb196) (o := .cells #[.string x197000_29, .int .i64 (wrap64 (a0_1 - 1)), .bool false] 96 (0, 0)) zz29 hb); have n2_ := Aside0.mk (blk_below (g := gb197) (o := .cells #[.string (⟨#[]⟩ : ByteArray), .int .i64 0, .bool false] 96 (0, 0)) zz53 hb); have n3_ := Aside0.mk (below_step zz3 hb); clear BK196; clear BK197; clear HB; have HO200 := n0_; have BK196 := n1_; have BK197 := n2_; have HB := n3_; clear n0_ n1_ n2_ n3_; clear hb ho60; have hcv61 := own_string (P := Try.prog) Try.underlying52 Try.underlying5 Try.underlying9 (Kd.own_of_R HO200.out); have hcz62_0 : w59.cell? ⟨gb196, 0, none⟩ = some (.string x197000_29) := (blk_cell BK196.out 0).trans rfl; have hcz62_1 : w59.cell? ⟨gb196, 1, none⟩ = some (.int .i64 (wrap64 (a0_1 - 1))) := (blk_cell BK196.out 1).trans rfl; have hcz62_2 : w59.cell? ⟨gb196, 2, none⟩ = some (.bool false) := (blk_cell BK196.out 2).trans rfl; have hfz62_0 := blk_frozen BK196.out 0; have hfz62_1 := blk_frozen BK196.out 1; have hfz62_2 := blk_frozen BK196.out 2) | ((with_reducible refine gate_callee (f := 105) rfl ?_); refine goesL_ (some 44) rfl rfl Try.func105 zz23 rfl #[.string (x197000_29 ++ (strOfNums y198))] rfl zz39 ?_; (with_reducible refine (when_may.calls kj29 (x197000_29 ++ (strOfNums y198)) true _ A38.out).mono ?_); rintro e w' ⟨rfl, ⟨nd, rfl⟩⟩; refine ⟨_, rfl, ?_⟩) | (go_at_call 106; (with_reducible refine (when_late.calls kj29 (x197000_29 ++ (strOfNums y198)) false _ A48.out).mono ?_); rintro e w' ⟨rfl, ⟨nd, rfl⟩⟩; have hcz63_0 : w59.cell? ⟨gb197, 0, none⟩ = some (.string (⟨#[]⟩ : ByteArray)) := (blk_cell BK197.out 0).trans rfl; have hcz63_1 : w59.cell? ⟨gb197, 1, none⟩ = some (.int .i64 0) := (blk_cell BK197.out 1).trans rfl; have hcz63_2 : w59.cell? ⟨gb197, 2, none⟩ = some (.bool false) := (blk_cell BK197.out 2).trans rfl; have hfz63_0 := blk_frozen BK197.out 0; have hfz63_1 := blk_frozen BK197.out 1; have hfz63_2 := blk_frozen BK197.out 2))
                refine bodyPost_ret (results_ct rfl _ _ gb197 96 #[.string (⟨#[]⟩ : ByteArray), .int .i64 0, .bool false] (0, 0) _ rfl zz30 Try.underlying96 rfl zz23) rfl ?_
                exact ⟨zz2, zz3⟩
             ·
              replace c39 := Bool.eq_false_iff.mpr c39
              subst c39
              have H1 : (some ((⟨#[]⟩ : ByteArray), 0, false, false)) = some (r1, r2, r3, r4) := by rw [if_neg (show ¬ (false = true) by decide)] at H; exact H
              clear H
              have H := H1
              clear H1
              simp only [Option.some.injEq, Prod.mk.injEq] at H
              obtain ⟨rfl, rfl, rfl, rfl⟩ := H
              have hnb64 := NB196_197.out
              have hnc64 := NB197_196.out
              have hcz65_0 : wc.cell? ⟨gb196, 0, none⟩ = some (.string x197000_29) := (blk_cell BK196.out 0).trans rfl
              have hcz65_1 : wc.cell? ⟨gb196, 1, none⟩ = some (.int .i64 (wrap64 (a0_1 - 1))) := (blk_cell BK196.out 1).trans rfl
              have hcz65_2 : wc.cell? ⟨gb196, 2, none⟩ = some (.bool a0_2) := (blk_cell BK196.out 2).trans rfl
              have hfz65_0 := blk_frozen BK196.out 0
              have hfz65_1 := blk_frozen BK196.out 1
              have hfz65_2 := blk_frozen BK196.out 2
              go_wp2_with (first | ((with_reducible refine gate_dst (N := 38) rfl ?_); refine Kd.R_lit (Kd.int .u8) _ 5 ?hg (N := 38) ?hd (xs := ([a1] : List Int)) (inner := [.int .u8 a1]) (ok := fun _ => True) (okp := fun _ => True) ?hr ?hp (fun _ hk => hk) trivial (Below.refl _ _) (Nat.le_refl _) zz56 ?_; (case hd => rfl); (case hg => rfl); (case hr => first | (go_simp; done) | (go_simp; rfl)); (case hp => exact (Reps.one (show Kd.M (Kd.int .u8) _ _ _ a1 [.int .u8 a1] from rfl) (Reps.none _ _))); intro v199 w66 ho67 hb hg_ hnew_; clear hg_ hnew_; (first | rw [← Ny198.out] at ho67 | (simp only [Int.reduceToNat] at ho67; rw [← Ny198.out] at ho67)); have n0_ := Aside0.mk (Kd.R_lower ho67 (below_size zz3)); have n1_ := Aside0.mk (blk_below (g := gb196) (o := .cells #[.string x197000_29, .int .i64 (wrap64 (a0_1 - 1)), .bool a0_2] 96 (0, 0)) zz29 hb); have n2_ := Aside0.mk (blk_below (g := gb197) (o := .cells #[.string (⟨#[]⟩ : ByteArray), .int .i64 0, .bool false] 96 (0, 0)) zz53 hb); have n3_ := Aside0.mk (below_step zz3 hb); clear BK196; clear BK197; clear HB; have HO200 := n0_; have BK196 := n1_; have BK197 := n2_; have HB := n3_; clear n0_ n1_ n2_ n3_; clear hb ho67; have hcv68 := own_string (P := Try.prog) Try.underlying52 Try.underlying5 Try.underlying9 (Kd.own_of_R HO200.out); have hcz69_0 : w66.cell? ⟨gb196, 0, none⟩ = some (.string x197000_29) := (blk_cell BK196.out 0).trans rfl; have hcz69_1 : w66.cell? ⟨gb196, 1, none⟩ = some (.int .i64 (wrap64 (a0_1 - 1))) := (blk_cell BK196.out 1).trans rfl; have hcz69_2 : w66.cell? ⟨gb196, 2, none⟩ = some (.bool a0_2) := (blk_cell BK196.out 2).trans rfl; have hfz69_0 := blk_frozen BK196.out 0; have hfz69_1 := blk_frozen BK196.out 1; have hfz69_2 := blk_frozen BK196.out 2) | ((with_reducible refine gate_callee (f := 105) rfl ?_); refine goesL_ (some 44) rfl rfl Try.func105 zz23 rfl #[.string (x197000_29 ++ (strOfNums y198))] rfl zz39 ?_; (with_reducible refine (when_may.calls kj29 (x197000_29 ++ (strOfNums y198)) false _ A38.out).mono ?_); rintro e w' ⟨rfl, ⟨nd, rfl⟩⟩; refine ⟨_, rfl, ?_⟩; have hcz70_0 : w66.cell? ⟨gb197, 0, none⟩ = some (.string (⟨#[]⟩ : ByteArray)) := (blk_cell BK197.out 0).trans rfl; have hcz70_1 : w66.cell? ⟨gb197, 1, none⟩ = some (.int .i64 0) := (blk_cell BK197.out 1).trans rfl; have hcz70_2 : w66.cell? ⟨gb197, 2, none⟩ = some (.bool false) := (blk_cell BK197.out 2).trans rfl; have hfz70_0 := blk_frozen BK197.out 0; have hfz70_1 := blk_frozen BK197.out 1; have hfz70_2 := blk_frozen BK197.out 2))
              refine bodyPost_ret (results_ct rfl _ _ gb197 96 #[.string (⟨#[]⟩ : ByteArray), .int .i64 0, .bool false] (0, 0) _ rfl zz30 Try.underlying96 rfl zz23) rfl ?_
              exact ⟨zz2, zz3⟩
            ·
             rw [if_neg c37] at H
             exact absurd H zz56
end Go.Proofs.Ytpfconocipmcjaa.PC
