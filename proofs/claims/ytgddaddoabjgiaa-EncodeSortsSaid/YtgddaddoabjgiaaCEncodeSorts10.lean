/- What the row of EncodeSorts stands on, made small by a program of this session (pack.py). -/
import Derived.Test.YtgddaddoabjgiaaCEncodeSorts2
import Derived.Test.YtgddaddoabjgiaaCEncodeSorts3
import Derived.Test.YtgddaddoabjgiaaCEncodeSorts5
import Derived.Test.YtgddaddoabjgiaaCEncodeSorts9
namespace Go.Proofs.Ytgddaddoabjgiaa.PB
open RowKit YtgddaddoabjgiaaW.PrintWords YtgddaddoabjgiaaW.PrintLast YtgddaddoabjgiaaW.PrintMore
attribute [local go_sem] max2_int min2_int max_two min_two max_three min_three max_four min_four
set_option linter.unusedVariables false
set_option linter.unusedSimpArgs false
mutual
def when_State_Push.j0 : Nat → Int → Bool → ByteArray → Int → Bool → Option (ByteArray × Int × Bool × Bool)
 | 0, _, _, _, _, _ => none
 | k + 1, x1, x22, x174000, x174001, x174002 => if x22 = true then (some ((⟨#[]⟩ : ByteArray), 0, false, false)) else (if x174002 = true then (when_State_Push.j1 k x1 (x174000.toList == ([] : List UInt8)) x174000 x174001 x174002) else (when_State_Push.j1 k x1 false x174000 x174001 x174002))
def when_State_Push.j1 : Nat → Int → Bool → ByteArray → Int → Bool → Option (ByteArray × Int × Bool × Bool)
 | 0, _, _, _, _, _ => none
 | k + 1, x1, x30, x174000, x174001, x174002 => if x30 = true then (if x1 ≥ 53 then (when_State_Push.j2 k x1 (⟨#[49, 57]⟩ : ByteArray) x174001 x174002) else (when_State_Push.j2 k x1 (⟨#[50, 48]⟩ : ByteArray) x174001 x174002)) else (when_State_Push.j2 k x1 x174000 x174001 x174002)
def when_State_Push.j2 : Nat → Int → ByteArray → Int → Bool → Option (ByteArray × Int × Bool × Bool)
 | 0, _, _, _, _ => none
 | k + 1, x1, x174000, x174001, x174002 => (some (([x1] : List Int) : List Int)).bind fun y175 => (if x174000.size + (strOfNums y175).size ≤ 9223372036854775807 then ((when_may.f k (x174000 ++ (strOfNums y175))).bind fun t178 => (if t178 = true then (if x174002 = true then (some (x174000 ++ (strOfNums y175), x174001, x174002, true)) else ((when_late.f k (x174000 ++ (strOfNums y175))).bind fun t179 => (if t179 = true then (some (x174000 ++ (strOfNums y175), x174001, x174002, true)) else (some ((⟨#[]⟩ : ByteArray), 0, false, false))))) else (some ((⟨#[]⟩ : ByteArray), 0, false, false)))) else (none))
end
def when_State_Push.f (k : Nat) (a0_0 : ByteArray) (a0_1 : Int) (a0_2 : Bool) (a1 : Int) : Option (ByteArray × Int × Bool × Bool) := if (wrap64 (a0_1 - 1)) = 0 then (if a1 = 90 then (some (a0_0, wrap64 (a0_1 - 1), a0_2, true)) else (some ((⟨#[]⟩ : ByteArray), 0, false, false))) else (if a1 < 48 then (when_State_Push.j0 k a1 true a0_0 (wrap64 (a0_1 - 1)) a0_2) else (when_State_Push.j0 k a1 (decide (a1 > 57)) a0_0 (wrap64 (a0_1 - 1)) a0_2))
set_option maxHeartbeats 8000000 in
set_option maxRecDepth 100000 in
theorem when_State_Push.calls (k : Nat) (a0_0 : ByteArray) (a0_1 : Int) (a0_2 : Bool) (a1 : Int) (r1 : ByteArray) (r2 : Int) (r3 : Bool) (r4 : Bool) (w : World) (h : when_State_Push.f k a0_0 a0_1 a0_2 a1 = some (r1, r2, r3, r4)) :
 Calls Try.prog 86 #[.agg #[.string a0_0, .int .i64 a0_1, .bool a0_2], .int .u8 a1] w fun e w' => e = .returned (.tuple #[.agg #[.string r1, .int .i64 r2, .bool r3], .bool r4]) ∧ Below w.heap.size w w' := by
 have hu120 := Try.underlying120
 have HB := Aside0.mk (Below.refl w.heap.size w)
 have H : (if (wrap64 (a0_1 - 1)) = 0 then (if a1 = 90 then (some (a0_0, wrap64 (a0_1 - 1), a0_2, true)) else (some ((⟨#[]⟩ : ByteArray), 0, false, false))) else (if a1 < 48 then (when_State_Push.j0 k a1 true a0_0 (wrap64 (a0_1 - 1)) a0_2) else (when_State_Push.j0 k a1 (decide (a1 > 57)) a0_0 (wrap64 (a0_1 - 1)) a0_2))) = some (r1, r2, r3, r4) := h
 clear h
 by_cases c3 : (wrap64 (a0_1 - 1)) = 0
 ·
  rw [if_pos c3] at H
  have c3b0 : ((wrap64 (a0_1 - 1)) == 0) = true := beq_iff_eq.mpr c3
  have c3b1 : ((wrap64 (a0_1 - 1)) != 0) = false := bne_eq_false_iff_eq.mpr c3
  clear c3
  by_cases c4 : a1 = 90
  ·
   rw [if_pos c4] at H
   have c4b0 : (a1 == 90) = true := beq_iff_eq.mpr c4
   have c4b1 : (a1 != 90) = false := bne_eq_false_iff_eq.mpr c4
   clear c4
   simp only [Option.some.injEq, Prod.mk.injEq] at H
   obtain ⟨rfl, rfl, rfl, rfl⟩ := H
   go_enter Try.func86, Try.ntmps86
   go_wp2_with (first | ((with_reducible refine gate_dst (N := 2) rfl ?_); refine zzbx (N := 2) (cs := #[.string a0_0, .int .i64 a0_1, .bool a0_2]) (t := 120) ?_; intro gb173 hg w5 hbox hb; have n0_ := Aside0.mk (below_step zz1 hb); have n1_ := Aside0.mk (hbox); have n2_ := Aside0.mk ((zz15 : w.heap.size ≤ gb173)); have n3_ := Aside0.mk ((zz15 : w.heap.size ≤ gb173)); clear HB; have HB := n0_; have BK173 := n1_; have GW173 := n2_; have GE173 := n3_; clear n0_ n1_ n2_ n3_; clear hb hbox hg) | ((with_reducible refine gate_dst (N := 4) rfl ?_); refine zzbx (N := 4) (cs := #[.string (⟨#[]⟩ : ByteArray), .int .i64 0, .bool false]) (t := 120) ?_; intro gb174 hg w6 hbox hb; have n0_ := Aside0.mk (blk_below (g := gb173) (o := .cells #[.string a0_0, .int .i64 a0_1, .bool a0_2] 120 (0, 0)) zz21 hb); have n1_ := Aside0.mk (below_step zz19 hb); have n2_ := Aside0.mk (hbox); have n3_ := Aside0.mk ((by rw [hg]; exact (below_size zz19) : w.heap.size ≤ gb174)); have n4_ := Aside0.mk ((by rw [hg]; exact (below_size zz19) : w.heap.size ≤ gb174)); have n5_ := Aside0.mk ((zz74 : gb173 ≠ gb174)); have n6_ := Aside0.mk ((zz75 : gb174 ≠ gb173)); clear BK173; clear HB; have BK173 := n0_; have HB := n1_; have BK174 := n2_; have GW174 := n3_; have GE174 := n4_; have NB173_174 := n5_; have NB174_173 := n6_; clear n0_ n1_ n2_ n3_ n4_ n5_ n6_; clear hb hbox hg; have hnb7 := NB173_174.out; have hnc7 := NB174_173.out; have hcz8_0 : w6.cell? ⟨gb173, 0, none⟩ = some (.string a0_0) := (blk_cell BK173.out 0).trans rfl; have hcz8_1 : w6.cell? ⟨gb173, 1, none⟩ = some (.int .i64 a0_1) := (blk_cell BK173.out 1).trans rfl; have hcz8_2 : w6.cell? ⟨gb173, 2, none⟩ = some (.bool a0_2) := (blk_cell BK173.out 2).trans rfl; have hfz8_0 := blk_frozen BK173.out 0; have hfz8_1 := blk_frozen BK173.out 1; have hfz8_2 := blk_frozen BK173.out 2; have hcz9_0 : w6.cell? ⟨gb174, 0, none⟩ = some (.string (⟨#[]⟩ : ByteArray)) := (blk_cell BK174.out 0).trans rfl; have hcz9_1 : w6.cell? ⟨gb174, 1, none⟩ = some (.int .i64 0) := (blk_cell BK174.out 1).trans rfl; have hcz9_2 : w6.cell? ⟨gb174, 2, none⟩ = some (.bool false) := (blk_cell BK174.out 2).trans rfl; have hfz9_0 := blk_frozen BK174.out 0; have hfz9_1 := blk_frozen BK174.out 1; have hfz9_2 := blk_frozen BK174.out 2))
   refine bodyPost_ret (results_ct rfl _ _ gb174 120 #[.string a0_0, .int .i64 (wrap64 (a0_1 - 1)), .bool a0_2] (0, 0) _ rfl (by (with_reducible repeat (first | refine blk_drewN ?_ _ | refine blk_drew ?_ | refine blk_alloc ?_ _)); refine blk_put (cs := #[.string a0_0, .int .i64 (wrap64 (a0_1 - 1)), .bool false]) ?_ 2 _ rfl; (with_reducible repeat (first | refine blk_drewN ?_ _ | refine blk_drew ?_ | refine blk_alloc ?_ _)); refine blk_put (cs := #[.string a0_0, .int .i64 0, .bool false]) ?_ 1 _ rfl; (with_reducible repeat (first | refine blk_drewN ?_ _ | refine blk_drew ?_ | refine blk_alloc ?_ _)); refine blk_put (cs := #[.string (⟨#[]⟩ : ByteArray), .int .i64 0, .bool false]) ?_ 0 _ rfl; (with_reducible repeat (first | refine blk_drewN ?_ _ | refine blk_drew ?_ | refine blk_alloc ?_ _)); refine blk_far ?_ NB174_173.out _; (with_reducible repeat (first | refine blk_drewN ?_ _ | refine blk_drew ?_ | refine blk_alloc ?_ _)); exact BK174.out) Try.underlying120 rfl zz4) rfl ?_
   exact ⟨zz3, zz8⟩
  ·
   rw [if_neg c4] at H
   have c4b0 : (a1 == 90) = false := beq_eq_false_iff_ne.mpr c4
   have c4b1 : (a1 != 90) = true := bne_iff_ne.mpr c4
   simp only [Option.some.injEq, Prod.mk.injEq] at H
   obtain ⟨rfl, rfl, rfl, rfl⟩ := H
   go_enter Try.func86, Try.ntmps86
   go_wp2_with (first | ((with_reducible refine gate_dst (N := 2) rfl ?_); refine zzbx (N := 2) (cs := #[.string a0_0, .int .i64 a0_1, .bool a0_2]) (t := 120) ?_; intro gb173 hg w10 hbox hb; have n0_ := Aside0.mk (below_step zz1 hb); have n1_ := Aside0.mk (hbox); have n2_ := Aside0.mk ((zz15 : w.heap.size ≤ gb173)); have n3_ := Aside0.mk ((zz15 : w.heap.size ≤ gb173)); clear HB; have HB := n0_; have BK173 := n1_; have GW173 := n2_; have GE173 := n3_; clear n0_ n1_ n2_ n3_; clear hb hbox hg) | ((with_reducible refine gate_dst (N := 4) rfl ?_); refine zzbx (N := 4) (cs := #[.string (⟨#[]⟩ : ByteArray), .int .i64 0, .bool false]) (t := 120) ?_; intro gb174 hg w11 hbox hb; have n0_ := Aside0.mk (blk_below (g := gb173) (o := .cells #[.string a0_0, .int .i64 a0_1, .bool a0_2] 120 (0, 0)) zz21 hb); have n1_ := Aside0.mk (below_step zz19 hb); have n2_ := Aside0.mk (hbox); have n3_ := Aside0.mk ((by rw [hg]; exact (below_size zz19) : w.heap.size ≤ gb174)); have n4_ := Aside0.mk ((by rw [hg]; exact (below_size zz19) : w.heap.size ≤ gb174)); have n5_ := Aside0.mk ((zz74 : gb173 ≠ gb174)); have n6_ := Aside0.mk ((zz75 : gb174 ≠ gb173)); clear BK173; clear HB; have BK173 := n0_; have HB := n1_; have BK174 := n2_; have GW174 := n3_; have GE174 := n4_; have NB173_174 := n5_; have NB174_173 := n6_; clear n0_ n1_ n2_ n3_ n4_ n5_ n6_; clear hb hbox hg; have hnb12 := NB173_174.out; have hnc12 := NB174_173.out; have hcz13_0 : w11.cell? ⟨gb173, 0, none⟩ = some (.string a0_0) := (blk_cell BK173.out 0).trans rfl; have hcz13_1 : w11.cell? ⟨gb173, 1, none⟩ = some (.int .i64 a0_1) := (blk_cell BK173.out 1).trans rfl; have hcz13_2 : w11.cell? ⟨gb173, 2, none⟩ = some (.bool a0_2) := (blk_cell BK173.out 2).trans rfl; have hfz13_0 := blk_frozen BK173.out 0; have hfz13_1 := blk_frozen BK173.out 1; have hfz13_2 := blk_frozen BK173.out 2; have hcz14_0 : w11.cell? ⟨gb174, 0, none⟩ = some (.string (⟨#[]⟩ : ByteArray)) := (blk_cell BK174.out 0).trans rfl; have hcz14_1 : w11.cell? ⟨gb174, 1, none⟩ = some (.int .i64 0) := (blk_cell BK174.out 1).trans rfl; have hcz14_2 : w11.cell? ⟨gb174, 2, none⟩ = some (.bool false) := (blk_cell BK174.out 2).trans rfl; have hfz14_0 := blk_frozen BK174.out 0; have hfz14_1 := blk_frozen BK174.out 1; have hfz14_2 := blk_frozen BK174.out 2))
   refine bodyPost_ret (results_ct rfl _ _ gb174 120 #[.string (⟨#[]⟩ : ByteArray), .int .i64 0, .bool false] (0, 0) _ rfl zz30 Try.underlying120 rfl zz4) rfl ?_
   exact ⟨zz3, zz8⟩
 ·
  rw [if_neg c3] at H
  have c3b0 : ((wrap64 (a0_1 - 1)) == 0) = false := beq_eq_false_iff_ne.mpr c3
  have c3b1 : ((wrap64 (a0_1 - 1)) != 0) = true := bne_iff_ne.mpr c3
  have HC15 := Aside0.mk H
  clear H
  go_enter Try.func86, Try.ntmps86
  go_upto_region 6 with (first | ((with_reducible refine gate_dst (N := 2) rfl ?_); refine zzbx (N := 2) (cs := #[.string a0_0, .int .i64 a0_1, .bool a0_2]) (t := 120) ?_; intro gb173 hg w16 hbox hb; have n0_ := Aside0.mk (below_step zz1 hb); have n1_ := Aside0.mk (hbox); have n2_ := Aside0.mk ((zz15 : w.heap.size ≤ gb173)); have n3_ := Aside0.mk ((zz15 : w.heap.size ≤ gb173)); clear HB; have HB := n0_; have BK173 := n1_; have GW173 := n2_; have GE173 := n3_; clear n0_ n1_ n2_ n3_; clear hb hbox hg) | ((with_reducible refine gate_dst (N := 4) rfl ?_); refine zzbx (N := 4) (cs := #[.string (⟨#[]⟩ : ByteArray), .int .i64 0, .bool false]) (t := 120) ?_; intro gb174 hg w17 hbox hb; have n0_ := Aside0.mk (blk_below (g := gb173) (o := .cells #[.string a0_0, .int .i64 a0_1, .bool a0_2] 120 (0, 0)) zz21 hb); have n1_ := Aside0.mk (below_step zz19 hb); have n2_ := Aside0.mk (hbox); have n3_ := Aside0.mk ((by rw [hg]; exact (below_size zz19) : w.heap.size ≤ gb174)); have n4_ := Aside0.mk ((by rw [hg]; exact (below_size zz19) : w.heap.size ≤ gb174)); have n5_ := Aside0.mk ((zz74 : gb173 ≠ gb174)); have n6_ := Aside0.mk ((zz75 : gb174 ≠ gb173)); clear BK173; clear HB; have BK173 := n0_; have HB := n1_; have BK174 := n2_; have GW174 := n3_; have GE174 := n4_; have NB173_174 := n5_; have NB174_173 := n6_; clear n0_ n1_ n2_ n3_ n4_ n5_ n6_; clear hb hbox hg; have hnb18 := NB173_174.out; have hnc18 := NB174_173.out; have hcz19_0 : w17.cell? ⟨gb173, 0, none⟩ = some (.string a0_0) := (blk_cell BK173.out 0).trans rfl; have hcz19_1 : w17.cell? ⟨gb173, 1, none⟩ = some (.int .i64 a0_1) := (blk_cell BK173.out 1).trans rfl; have hcz19_2 : w17.cell? ⟨gb173, 2, none⟩ = some (.bool a0_2) := (blk_cell BK173.out 2).trans rfl; have hfz19_0 := blk_frozen BK173.out 0; have hfz19_1 := blk_frozen BK173.out 1; have hfz19_2 := blk_frozen BK173.out 2))
  (try simp only [Act.put, List.setIfInBounds_toArray, List.set_cons_zero, List.set_cons_succ])
  go_cut [22] (fun v22 wc => ∃ (kq : Nat) (x22_14 : Bool), v22 = .bool x22_14 ∧ Aside0 (when_State_Push.j0 kq a1 x22_14 a0_0 (wrap64 (a0_1 - 1)) a0_2 = some (r1, r2, r3, r4)) ∧ Aside0 (kq ≤ k) ∧ Aside0 (wc.heap[gb173]? = some (.cells #[.string a0_0, .int .i64 (wrap64 (a0_1 - 1)), .bool a0_2] 120 (0, 0))) ∧ Aside0 (wc.heap[gb174]? = some (.cells #[.string (⟨#[]⟩ : ByteArray), .int .i64 0, .bool false] 120 (0, 0))) ∧ Aside0 (Below w.heap.size w wc))
  case first =>
   have H := HC15.out
   clear HC15
   by_cases c20 : a1 < 48
   ·
    rw [if_pos c20] at H
    have c20b0 : decide (a1 < 48) = true := decide_eq_true c20
    clear c20
    (first | rw [c20b0] | (simp only [i64_w, i32_w]; rw [c20b0]) | skip)
    have H' := Aside0.mk H
    clear H
    go_wp2
    go_meet
    case rel => exact ⟨_, (true), zz0, H', ⟨zz28⟩, ⟨by (with_reducible repeat (first | refine blk_drewN ?_ _ | refine blk_drew ?_ | refine blk_alloc ?_ _)); refine blk_put (cs := #[.string a0_0, .int .i64 a0_1, .bool a0_2]) ?_ 1 _ rfl; (with_reducible repeat (first | refine blk_drewN ?_ _ | refine blk_drew ?_ | refine blk_alloc ?_ _)); exact BK173.out⟩, ⟨zz56⟩, ⟨zz8⟩⟩
   ·
    rw [if_neg c20] at H
    have c20b0 : decide (a1 < 48) = false := decide_eq_false c20
    clear c20
    (first | rw [c20b0] | (simp only [i64_w, i32_w]; rw [c20b0]) | skip)
    have H' := Aside0.mk H
    clear H
    go_wp2
    go_meet
    case rel => exact ⟨_, (decide (a1 > 57)), zz0, H', ⟨zz28⟩, ⟨by (with_reducible repeat (first | refine blk_drewN ?_ _ | refine blk_drew ?_ | refine blk_alloc ?_ _)); refine blk_put (cs := #[.string a0_0, .int .i64 a0_1, .bool a0_2]) ?_ 1 _ rfl; (with_reducible repeat (first | refine blk_drewN ?_ _ | refine blk_drew ?_ | refine blk_alloc ?_ _)); exact BK173.out⟩, ⟨zz56⟩, ⟨zz8⟩⟩
  case rest =>
   clear HC15
   try clear c1
   try clear c2
   try clear p2
   try clear c3
   try clear c3b0
   try clear c3b1
   try clear c4
   try clear c4b0
   try clear c4b1
   try clear p6
   try clear c7
   try clear c8
   try clear c12
   try clear c18
   try clear c20
   try clear c20b0
   try clear hcz13_0
   try clear hcz13_1
   try clear hcz13_2
   try clear hcz14_0
   try clear hcz14_1
   try clear hcz14_2
   try clear hcz19_0
   try clear hcz19_1
   try clear hcz19_2
   try clear hcz8_0
   try clear hcz8_1
   try clear hcz8_2
   try clear hcz9_0
   try clear hcz9_1
   try clear hcz9_2
   try clear hfz13_0
   try clear hfz13_1
   try clear hfz13_2
   try clear hfz14_0
   try clear hfz14_1
   try clear hfz14_2
   try clear hfz19_0
   try clear hfz19_1
   try clear hfz19_2
   try clear hfz8_0
   try clear hfz8_1
   try clear hfz8_2
   try clear hfz9_0
   try clear hfz9_1
   try clear hfz9_2
   obtain ⟨kq, x22_14, rfl, HA, HJ14, BK173, BK174, HB⟩ := hcut
   cases kq with
   | zero => exact absurd HA.out (by simp [when_State_Push.j0])
   | succ kj14 =>
     have H := HA.out
     clear HA
     simp only [when_State_Push.j0] at H
     by_cases c21 : x22_14 = true
     ·
      subst c21
      have H1 : (some ((⟨#[]⟩ : ByteArray), 0, false, false)) = some (r1, r2, r3, r4) := by rw [if_pos rfl] at H; exact H
      clear H
      have H := H1
      clear H1
      simp only [Option.some.injEq, Prod.mk.injEq] at H
      obtain ⟨rfl, rfl, rfl, rfl⟩ := H
      have hnb22 := NB174_173.out
      have hnc22 := NB173_174.out
      have hcz23_0 : wc.cell? ⟨gb174, 0, none⟩ = some (.string (⟨#[]⟩ : ByteArray)) := (blk_cell BK174.out 0).trans rfl
      have hcz23_1 : wc.cell? ⟨gb174, 1, none⟩ = some (.int .i64 0) := (blk_cell BK174.out 1).trans rfl
      have hcz23_2 : wc.cell? ⟨gb174, 2, none⟩ = some (.bool false) := (blk_cell BK174.out 2).trans rfl
      have hfz23_0 := blk_frozen BK174.out 0
      have hfz23_1 := blk_frozen BK174.out 1
      have hfz23_2 := blk_frozen BK174.out 2
      go_wp2
      refine bodyPost_ret (results_ct rfl _ _ gb174 120 #[.string (⟨#[]⟩ : ByteArray), .int .i64 0, .bool false] (0, 0) _ rfl (by (with_reducible repeat (first | refine blk_drewN ?_ _ | refine blk_drew ?_ | refine blk_alloc ?_ _)); refine blk_put (cs := #[.string (⟨#[]⟩ : ByteArray), .int .i64 0, .bool false]) ?_ 2 _ rfl; (with_reducible repeat (first | refine blk_drewN ?_ _ | refine blk_drew ?_ | refine blk_alloc ?_ _)); refine blk_put (cs := #[.string (⟨#[]⟩ : ByteArray), .int .i64 0, .bool false]) ?_ 1 _ rfl; (with_reducible repeat (first | refine blk_drewN ?_ _ | refine blk_drew ?_ | refine blk_alloc ?_ _)); refine blk_put (cs := #[.string (⟨#[]⟩ : ByteArray), .int .i64 0, .bool false]) ?_ 0 _ rfl; (with_reducible repeat (first | refine blk_drewN ?_ _ | refine blk_drew ?_ | refine blk_alloc ?_ _)); exact BK174.out) Try.underlying120 rfl zz4) rfl ?_
      exact ⟨zz3, zz8⟩
     ·
      replace c21 := Bool.eq_false_iff.mpr c21
      subst c21
      have H1 : (if a0_2 = true then (when_State_Push.j1 kj14 a1 (a0_0.toList == ([] : List UInt8)) a0_0 (wrap64 (a0_1 - 1)) a0_2) else (when_State_Push.j1 kj14 a1 false a0_0 (wrap64 (a0_1 - 1)) a0_2)) = some (r1, r2, r3, r4) := by rw [if_neg (show ¬ (false = true) by decide)] at H; exact H
      clear H
      have H := H1
      clear H1
      have HC24 := Aside0.mk H
      clear H
      go_upto_region 8 with (fail)
      go_cut [30] (fun v30 wc => ∃ (kq : Nat) (x30_23 : Bool), v30 = .bool x30_23 ∧ Aside0 (when_State_Push.j1 kq a1 x30_23 a0_0 (wrap64 (a0_1 - 1)) a0_2 = some (r1, r2, r3, r4)) ∧ Aside0 (kq ≤ kj14) ∧ Aside0 (wc.heap[gb173]? = some (.cells #[.string a0_0, .int .i64 (wrap64 (a0_1 - 1)), .bool a0_2] 120 (0, 0))) ∧ Aside0 (wc.heap[gb174]? = some (.cells #[.string (⟨#[]⟩ : ByteArray), .int .i64 0, .bool false] 120 (0, 0))) ∧ Aside0 (Below w.heap.size w wc))
      case first =>
       have H := HC24.out
       clear HC24
       by_cases c25 : a0_2 = true
       ·
        subst c25
        have H1 : (when_State_Push.j1 kj14 a1 (a0_0.toList == ([] : List UInt8)) a0_0 (wrap64 (a0_1 - 1)) true) = some (r1, r2, r3, r4) := by rw [if_pos rfl] at H; exact H
        clear H
        have H := H1
        clear H1
        have H' := Aside0.mk H
        clear H
        have hnb26 := NB173_174.out
        have hnc26 := NB174_173.out
        have hcz27_0 : wc.cell? ⟨gb173, 0, none⟩ = some (.string a0_0) := (blk_cell BK173.out 0).trans rfl
        have hcz27_1 : wc.cell? ⟨gb173, 1, none⟩ = some (.int .i64 (wrap64 (a0_1 - 1))) := (blk_cell BK173.out 1).trans rfl
        have hcz27_2 : wc.cell? ⟨gb173, 2, none⟩ = some (.bool true) := (blk_cell BK173.out 2).trans rfl
        have hfz27_0 := blk_frozen BK173.out 0
        have hfz27_1 := blk_frozen BK173.out 1
        have hfz27_2 := blk_frozen BK173.out 2
        go_wp2
        go_meet
        case rel => exact ⟨_, ((a0_0.toList == ([] : List UInt8))), zz0, H', ⟨by have := HJ14.out; first | omega | exact Nat.le_refl _⟩, ⟨zz21⟩, ⟨zz48⟩, ⟨zz8⟩⟩
       ·
        replace c25 := Bool.eq_false_iff.mpr c25
        subst c25
        have H1 : (when_State_Push.j1 kj14 a1 false a0_0 (wrap64 (a0_1 - 1)) false) = some (r1, r2, r3, r4) := by rw [if_neg (show ¬ (false = true) by decide)] at H; exact H
        clear H
        have H := H1
        clear H1
        have H' := Aside0.mk H
        clear H
        have hnb28 := NB173_174.out
        have hnc28 := NB174_173.out
        have hcz29_0 : wc.cell? ⟨gb173, 0, none⟩ = some (.string a0_0) := (blk_cell BK173.out 0).trans rfl
        have hcz29_1 : wc.cell? ⟨gb173, 1, none⟩ = some (.int .i64 (wrap64 (a0_1 - 1))) := (blk_cell BK173.out 1).trans rfl
        have hcz29_2 : wc.cell? ⟨gb173, 2, none⟩ = some (.bool false) := (blk_cell BK173.out 2).trans rfl
        have hfz29_0 := blk_frozen BK173.out 0
        have hfz29_1 := blk_frozen BK173.out 1
        have hfz29_2 := blk_frozen BK173.out 2
        go_wp2
        go_meet
        case rel => exact ⟨_, (false), zz0, H', ⟨by have := HJ14.out; first | omega | exact Nat.le_refl _⟩, ⟨zz21⟩, ⟨zz48⟩, ⟨zz8⟩⟩
      case rest =>
       clear HC24
       try clear c1
       try clear c2
       try clear p2
       try clear c3
       try clear c3b0
       try clear c3b1
       try clear c4
       try clear c4b0
       try clear c4b1
       try clear p6
       try clear c7
       try clear c8
       try clear c12
       try clear c18
       try clear c20
       try clear c20b0
       try clear c21
       try clear c22
       try clear c25
       try clear c26
       try clear c28
       try clear hcz13_0
       try clear hcz13_1
       try clear hcz13_2
       try clear hcz14_0
       try clear hcz14_1
       try clear hcz14_2
       try clear hcz19_0
       try clear hcz19_1
       try clear hcz19_2
       try clear hcz23_0
       try clear hcz23_1
       try clear hcz23_2
       try clear hcz27_0
       try clear hcz27_1
       try clear hcz27_2
       try clear hcz29_0
       try clear hcz29_1
       try clear hcz29_2
       try clear hcz8_0
       try clear hcz8_1
       try clear hcz8_2
       try clear hcz9_0
       try clear hcz9_1
       try clear hcz9_2
       try clear hfz13_0
       try clear hfz13_1
       try clear hfz13_2
       try clear hfz14_0
       try clear hfz14_1
       try clear hfz14_2
       try clear hfz19_0
       try clear hfz19_1
       try clear hfz19_2
       try clear hfz23_0
       try clear hfz23_1
       try clear hfz23_2
       try clear hfz27_0
       try clear hfz27_1
       try clear hfz27_2
       try clear hfz29_0
       try clear hfz29_1
       try clear hfz29_2
       try clear hfz8_0
       try clear hfz8_1
       try clear hfz8_2
       try clear hfz9_0
       try clear hfz9_1
       try clear hfz9_2
       try clear p2
       try clear p6
       obtain ⟨kq, x30_23, rfl, HA, HJ23, BK173, BK174, HB⟩ := hcut
       cases kq with
       | zero => exact absurd HA.out (by simp [when_State_Push.j1])
       | succ kj23 =>
         have H := HA.out
         clear HA
         simp only [when_State_Push.j1] at H
         have HC30 := Aside0.mk H
         clear H
         go_upto_if 30 with (fail)
         go_cut [] (fun wc => ∃ (kq : Nat) (x174000_29 : ByteArray), Aside0 (when_State_Push.j2 kq a1 x174000_29 (wrap64 (a0_1 - 1)) a0_2 = some (r1, r2, r3, r4)) ∧ Aside0 (kq ≤ kj23) ∧ Aside0 (wc.heap[gb173]? = some (.cells #[.string x174000_29, .int .i64 (wrap64 (a0_1 - 1)), .bool a0_2] 120 (0, 0))) ∧ Aside0 (wc.heap[gb174]? = some (.cells #[.string (⟨#[]⟩ : ByteArray), .int .i64 0, .bool false] 120 (0, 0))) ∧ Aside0 (Below w.heap.size w wc))
         case first =>
          have H := HC30.out
          clear HC30
          by_cases c31 : x30_23 = true
          ·
           subst c31
           have H1 : (if a1 ≥ 53 then (when_State_Push.j2 kj23 a1 (⟨#[49, 57]⟩ : ByteArray) (wrap64 (a0_1 - 1)) a0_2) else (when_State_Push.j2 kj23 a1 (⟨#[50, 48]⟩ : ByteArray) (wrap64 (a0_1 - 1)) a0_2)) = some (r1, r2, r3, r4) := by rw [if_pos rfl] at H; exact H
           clear H
           have H := H1
           clear H1
           by_cases c32 : a1 ≥ 53
           ·
            rw [if_pos c32] at H
            have c32b0 : decide (53 ≤ a1) = true := decide_eq_true c32
            clear c32
            (first | rw [c32b0] | (simp only [i64_w, i32_w]; rw [c32b0]) | skip)
            have H' := Aside0.mk H
            clear H
            have hnb33 := NB173_174.out
            have hnc33 := NB174_173.out
            have hcz34_0 : wc.cell? ⟨gb173, 0, none⟩ = some (.string a0_0) := (blk_cell BK173.out 0).trans rfl
            have hcz34_1 : wc.cell? ⟨gb173, 1, none⟩ = some (.int .i64 (wrap64 (a0_1 - 1))) := (blk_cell BK173.out 1).trans rfl
            have hcz34_2 : wc.cell? ⟨gb173, 2, none⟩ = some (.bool a0_2) := (blk_cell BK173.out 2).trans rfl
            have hfz34_0 := blk_frozen BK173.out 0
            have hfz34_1 := blk_frozen BK173.out 1
            have hfz34_2 := blk_frozen BK173.out 2
            go_wp2
            go_meet
            case rel => exact ⟨_, ((⟨#[49, 57]⟩ : ByteArray)), H', ⟨by have := HJ14.out; have := HJ23.out; first | omega | exact Nat.le_refl _⟩, ⟨by (with_reducible repeat (first | refine blk_drewN ?_ _ | refine blk_drew ?_ | refine blk_alloc ?_ _)); refine blk_put (cs := #[.string (⟨#[50, 48]⟩ : ByteArray), .int .i64 (wrap64 (a0_1 - 1)), .bool a0_2]) ?_ 0 _ rfl; (with_reducible repeat (first | refine blk_drewN ?_ _ | refine blk_drew ?_ | refine blk_alloc ?_ _)); refine blk_put (cs := #[.string a0_0, .int .i64 (wrap64 (a0_1 - 1)), .bool a0_2]) ?_ 0 _ rfl; (with_reducible repeat (first | refine blk_drewN ?_ _ | refine blk_drew ?_ | refine blk_alloc ?_ _)); exact BK173.out⟩, ⟨by (with_reducible repeat (first | refine blk_drewN ?_ _ | refine blk_drew ?_ | refine blk_alloc ?_ _)); refine blk_far ?_ NB174_173.out _; (with_reducible repeat (first | refine blk_drewN ?_ _ | refine blk_drew ?_ | refine blk_alloc ?_ _)); refine blk_far ?_ NB174_173.out _; (with_reducible repeat (first | refine blk_drewN ?_ _ | refine blk_drew ?_ | refine blk_alloc ?_ _)); exact BK174.out⟩, ⟨zz8⟩⟩
           ·
            rw [if_neg c32] at H
            have c32b0 : decide (53 ≤ a1) = false := decide_eq_false c32
            clear c32
            (first | rw [c32b0] | (simp only [i64_w, i32_w]; rw [c32b0]) | skip)
            have H' := Aside0.mk H
            clear H
            have hnb35 := NB173_174.out
            have hnc35 := NB174_173.out
            have hcz36_0 : wc.cell? ⟨gb173, 0, none⟩ = some (.string a0_0) := (blk_cell BK173.out 0).trans rfl
            have hcz36_1 : wc.cell? ⟨gb173, 1, none⟩ = some (.int .i64 (wrap64 (a0_1 - 1))) := (blk_cell BK173.out 1).trans rfl
            have hcz36_2 : wc.cell? ⟨gb173, 2, none⟩ = some (.bool a0_2) := (blk_cell BK173.out 2).trans rfl
            have hfz36_0 := blk_frozen BK173.out 0
            have hfz36_1 := blk_frozen BK173.out 1
            have hfz36_2 := blk_frozen BK173.out 2
            go_wp2
            go_meet
            case rel => exact ⟨_, ((⟨#[50, 48]⟩ : ByteArray)), H', ⟨by have := HJ14.out; have := HJ23.out; first | omega | exact Nat.le_refl _⟩, ⟨by (with_reducible repeat (first | refine blk_drewN ?_ _ | refine blk_drew ?_ | refine blk_alloc ?_ _)); refine blk_put (cs := #[.string a0_0, .int .i64 (wrap64 (a0_1 - 1)), .bool a0_2]) ?_ 0 _ rfl; (with_reducible repeat (first | refine blk_drewN ?_ _ | refine blk_drew ?_ | refine blk_alloc ?_ _)); exact BK173.out⟩, ⟨zz56⟩, ⟨zz8⟩⟩
          ·
           replace c31 := Bool.eq_false_iff.mpr c31
           subst c31
           have H1 : (when_State_Push.j2 kj23 a1 a0_0 (wrap64 (a0_1 - 1)) a0_2) = some (r1, r2, r3, r4) := by rw [if_neg (show ¬ (false = true) by decide)] at H; exact H
           clear H
           have H := H1
           clear H1
           have H' := Aside0.mk H
           clear H
           go_wp2
           go_meet
           case rel => exact ⟨_, (a0_0), H', ⟨by have := HJ14.out; have := HJ23.out; first | omega | exact Nat.le_refl _⟩, ⟨zz21⟩, ⟨zz48⟩, ⟨zz8⟩⟩
         case rest =>
          clear HC30
          try clear c1
          try clear c2
          try clear p2
          try clear c3
          try clear c3b0
          try clear c3b1
          try clear c4
          try clear c4b0
          try clear c4b1
          try clear p6
          try clear c7
          try clear c8
          try clear c12
          try clear c18
          try clear c20
          try clear c20b0
          try clear c21
          try clear c22
          try clear c25
          try clear c26
          try clear c28
          try clear c31
          try clear c32
          try clear c32b0
          try clear c33
          try clear c35
          try clear hcz13_0
          try clear hcz13_1
          try clear hcz13_2
          try clear hcz14_0
          try clear hcz14_1
          try clear hcz14_2
          try clear hcz19_0
          try clear hcz19_1
          try clear hcz19_2
          try clear hcz23_0
          try clear hcz23_1
          try clear hcz23_2
          try clear hcz27_0
          try clear hcz27_1
          try clear hcz27_2
          try clear hcz29_0
          try clear hcz29_1
          try clear hcz29_2
          try clear hcz34_0
          try clear hcz34_1
          try clear hcz34_2
          try clear hcz36_0
          try clear hcz36_1
          try clear hcz36_2
          try clear hcz8_0
          try clear hcz8_1
          try clear hcz8_2
          try clear hcz9_0
          try clear hcz9_1
          try clear hcz9_2
          try clear hfz13_0
          try clear hfz13_1
          try clear hfz13_2
          try clear hfz14_0
          try clear hfz14_1
          try clear hfz14_2
          try clear hfz19_0
          try clear hfz19_1
          try clear hfz19_2
          try clear hfz23_0
          try clear hfz23_1
          try clear hfz23_2
          try clear hfz27_0
          try clear hfz27_1
          try clear hfz27_2
          try clear hfz29_0
          try clear hfz29_1
          try clear hfz29_2
          try clear hfz34_0
          try clear hfz34_1
          try clear hfz34_2
          try clear hfz36_0
          try clear hfz36_1
          try clear hfz36_2
          try clear hfz8_0
          try clear hfz8_1
          try clear hfz8_2
          try clear hfz9_0
          try clear hfz9_1
          try clear hfz9_2
          try clear p2
          try clear p6
          obtain ⟨kq, x174000_29, HA, HJ29, BK173, BK174, HB⟩ := hcut
          cases kq with
          | zero => exact absurd HA.out (by simp [when_State_Push.j2])
          | succ kj29 =>
            have H := HA.out
            clear HA
            simp only [when_State_Push.j2] at H
            obtain ⟨y175, hy175⟩ : ∃ y_ : List Int, y_ = (([a1] : List Int)) := ⟨_, rfl⟩
            replace H : (if x174000_29.size + (strOfNums y175).size ≤ 9223372036854775807 then ((when_may.f kj29 (x174000_29 ++ (strOfNums y175))).bind fun t178 => (if t178 = true then (if a0_2 = true then (some (x174000_29 ++ (strOfNums y175), (wrap64 (a0_1 - 1)), a0_2, true)) else ((when_late.f kj29 (x174000_29 ++ (strOfNums y175))).bind fun t179 => (if t179 = true then (some (x174000_29 ++ (strOfNums y175), (wrap64 (a0_1 - 1)), a0_2, true)) else (some ((⟨#[]⟩ : ByteArray), 0, false, false))))) else (some ((⟨#[]⟩ : ByteArray), 0, false, false)))) else (none)) = some (r1, r2, r3, r4) := by first | (rw [hy175]; with_reducible exact H) | (have H2_ := (Option.bind_some _ _).symm.trans H; rw [hy175]; with_reducible exact H2_) | (have H2_ := (Option.bind_some _ _).symm.trans H; with_reducible exact H2_) | with_reducible exact H | (rw [hy175]; exact H) | exact H
            have Ny175 := Aside0.mk hy175
            clear hy175
            by_cases c37 : x174000_29.size + (strOfNums y175).size ≤ 9223372036854775807
            ·
             rw [if_pos c37] at H
             have c37b0 := eq_true c37
             have c37b1 : decide (x174000_29.size + (strOfNums y175).size ≤ 9223372036854775807) = true := decide_eq_true c37
             try have c37b2 : (9223372036854775807 < x174000_29.size + (strOfNums y175).size) = False := eq_false (Nat.not_lt.2 c37)
             replace H := Option.bind_eq_some_iff.mp H
             obtain ⟨t178, A380, H⟩ := H
             replace H : (if t178 = true then (if a0_2 = true then (some (x174000_29 ++ (strOfNums y175), (wrap64 (a0_1 - 1)), a0_2, true)) else ((when_late.f kj29 (x174000_29 ++ (strOfNums y175))).bind fun t179 => (if t179 = true then (some (x174000_29 ++ (strOfNums y175), (wrap64 (a0_1 - 1)), a0_2, true)) else (some ((⟨#[]⟩ : ByteArray), 0, false, false))))) else (some ((⟨#[]⟩ : ByteArray), 0, false, false))) = some (r1, r2, r3, r4) := H
             have A38 := Aside0.mk A380
             clear A380
             by_cases c39 : t178 = true
             ·
              subst c39
              have H1 : (if a0_2 = true then (some (x174000_29 ++ (strOfNums y175), (wrap64 (a0_1 - 1)), a0_2, true)) else ((when_late.f kj29 (x174000_29 ++ (strOfNums y175))).bind fun t179 => (if t179 = true then (some (x174000_29 ++ (strOfNums y175), (wrap64 (a0_1 - 1)), a0_2, true)) else (some ((⟨#[]⟩ : ByteArray), 0, false, false))))) = some (r1, r2, r3, r4) := by rw [if_pos rfl] at H; exact H
              clear H
              have H := H1
              clear H1
              by_cases c40 : a0_2 = true
              ·
               subst c40
               have H1 : (some (x174000_29 ++ (strOfNums y175), (wrap64 (a0_1 - 1)), true, true)) = some (r1, r2, r3, r4) := by rw [if_pos rfl] at H; exact H
               clear H
               have H := H1
               clear H1
               simp only [Option.some.injEq, Prod.mk.injEq] at H
               obtain ⟨rfl, rfl, rfl, rfl⟩ := H
               have hnb41 := NB173_174.out
               have hnc41 := NB174_173.out
               have hcz42_0 : wc.cell? ⟨gb173, 0, none⟩ = some (.string x174000_29) := (blk_cell BK173.out 0).trans rfl
               have hcz42_1 : wc.cell? ⟨gb173, 1, none⟩ = some (.int .i64 (wrap64 (a0_1 - 1))) := (blk_cell BK173.out 1).trans rfl
               have hcz42_2 : wc.cell? ⟨gb173, 2, none⟩ = some (.bool true) := (blk_cell BK173.out 2).trans rfl
               have hfz42_0 := blk_frozen BK173.out 0
               have hfz42_1 := blk_frozen BK173.out 1
               have hfz42_2 := blk_frozen BK173.out 2
               go_wp2_with (first | ((with_reducible refine gate_dst (N := 38) rfl ?_); refine Kd.R_lit (Kd.int .u8) _ 5 ?hg (N := 38) ?hd (xs := ([a1] : List Int)) (inner := [.int .u8 a1]) (ok := fun _ => True) (okp := fun _ => True) ?hr ?hp (fun _ hk => hk) trivial (Below.refl _ _) (Nat.le_refl _) zz43 ?_; (case hd => rfl); (case hg => rfl); (case hr => first | (go_simp; done) | (go_simp; rfl)); (case hp => exact (Reps.one (show Kd.M (Kd.int .u8) _ _ _ a1 [.int .u8 a1] from rfl) (Reps.none _ _))); intro v176 w43 ho44 hb hg_ hnew_; clear hg_ hnew_; (first | rw [← Ny175.out] at ho44 | (simp only [Int.reduceToNat] at ho44; rw [← Ny175.out] at ho44)); have n0_ := Aside0.mk (Kd.R_lower ho44 (below_size zz8)); have n1_ := Aside0.mk (blk_below (g := gb173) (o := .cells #[.string x174000_29, .int .i64 (wrap64 (a0_1 - 1)), .bool true] 120 (0, 0)) zz21 hb); have n2_ := Aside0.mk (blk_below (g := gb174) (o := .cells #[.string (⟨#[]⟩ : ByteArray), .int .i64 0, .bool false] 120 (0, 0)) zz48 hb); have n3_ := Aside0.mk (below_step zz8 hb); clear BK173; clear BK174; clear HB; have HO177 := n0_; have BK173 := n1_; have BK174 := n2_; have HB := n3_; clear n0_ n1_ n2_ n3_; clear hb ho44; have hcv45 := own_string (P := Try.prog) Try.underlying76 Try.underlying5 Try.underlying9 (Kd.own_of_R HO177.out); have hcz46_0 : w43.cell? ⟨gb173, 0, none⟩ = some (.string x174000_29) := (blk_cell BK173.out 0).trans rfl; have hcz46_1 : w43.cell? ⟨gb173, 1, none⟩ = some (.int .i64 (wrap64 (a0_1 - 1))) := (blk_cell BK173.out 1).trans rfl; have hcz46_2 : w43.cell? ⟨gb173, 2, none⟩ = some (.bool true) := (blk_cell BK173.out 2).trans rfl; have hfz46_0 := blk_frozen BK173.out 0; have hfz46_1 := blk_frozen BK173.out 1; have hfz46_2 := blk_frozen BK173.out 2) | ((with_reducible refine gate_callee (f := 95) rfl ?_); refine goesL_ (some 44) rfl rfl Try.func95 zz4 rfl #[.string (x174000_29 ++ (strOfNums y175))] rfl zz5 ?_; (with_reducible refine (when_may.calls kj29 (x174000_29 ++ (strOfNums y175)) true _ A38.out).mono ?_); rintro e w' ⟨rfl, ⟨nd, rfl⟩⟩; refine ⟨_, rfl, ?_⟩; have hcz47_0 : w43.cell? ⟨gb174, 0, none⟩ = some (.string (⟨#[]⟩ : ByteArray)) := (blk_cell BK174.out 0).trans rfl; have hcz47_1 : w43.cell? ⟨gb174, 1, none⟩ = some (.int .i64 0) := (blk_cell BK174.out 1).trans rfl; have hcz47_2 : w43.cell? ⟨gb174, 2, none⟩ = some (.bool false) := (blk_cell BK174.out 2).trans rfl; have hfz47_0 := blk_frozen BK174.out 0; have hfz47_1 := blk_frozen BK174.out 1; have hfz47_2 := blk_frozen BK174.out 2))
               refine bodyPost_ret (results_ct rfl _ _ gb174 120 #[.string (x174000_29 ++ (strOfNums y175)), .int .i64 (wrap64 (a0_1 - 1)), .bool true] (0, 0) _ rfl (by (with_reducible repeat (first | refine blk_drewN ?_ _ | refine blk_drew ?_ | refine blk_alloc ?_ _)); refine blk_put (cs := #[.string (x174000_29 ++ (strOfNums y175)), .int .i64 (wrap64 (a0_1 - 1)), .bool false]) ?_ 2 _ rfl; (with_reducible repeat (first | refine blk_drewN ?_ _ | refine blk_drew ?_ | refine blk_alloc ?_ _)); refine blk_put (cs := #[.string (x174000_29 ++ (strOfNums y175)), .int .i64 0, .bool false]) ?_ 1 _ rfl; (with_reducible repeat (first | refine blk_drewN ?_ _ | refine blk_drew ?_ | refine blk_alloc ?_ _)); refine blk_put (cs := #[.string (⟨#[]⟩ : ByteArray), .int .i64 0, .bool false]) ?_ 0 _ rfl; (with_reducible repeat (first | refine blk_drewN ?_ _ | refine blk_drew ?_ | refine blk_alloc ?_ _)); refine blk_far ?_ NB174_173.out _; (with_reducible repeat (first | refine blk_drewN ?_ _ | refine blk_drew ?_ | refine blk_alloc ?_ _)); exact BK174.out) Try.underlying120 rfl zz4) rfl ?_
               exact ⟨zz3, zz8⟩
              ·
               replace c40 := Bool.eq_false_iff.mpr c40
               subst c40
               have H1 : ((when_late.f kj29 (x174000_29 ++ (strOfNums y175))).bind fun t179 => (if t179 = true then (some (x174000_29 ++ (strOfNums y175), (wrap64 (a0_1 - 1)), false, true)) else (some ((⟨#[]⟩ : ByteArray), 0, false, false)))) = some (r1, r2, r3, r4) := by rw [if_neg (show ¬ (false = true) by decide)] at H; exact H
               clear H
               have H := H1
               clear H1
               replace H := Option.bind_eq_some_iff.mp H
               obtain ⟨t179, A480, H⟩ := H
               replace H : (if t179 = true then (some (x174000_29 ++ (strOfNums y175), (wrap64 (a0_1 - 1)), false, true)) else (some ((⟨#[]⟩ : ByteArray), 0, false, false))) = some (r1, r2, r3, r4) := H
               have A48 := Aside0.mk A480
               clear A480
               by_cases c49 : t179 = true
               ·
                subst c49
                have H1 : (some (x174000_29 ++ (strOfNums y175), (wrap64 (a0_1 - 1)), false, true)) = some (r1, r2, r3, r4) := by rw [if_pos rfl] at H; exact H
                clear H
                have H := H1
                clear H1
                simp only [Option.some.injEq, Prod.mk.injEq] at H
                obtain ⟨rfl, rfl, rfl, rfl⟩ := H
                have hnb50 := NB173_174.out
                have hnc50 := NB174_173.out
                have hcz51_0 : wc.cell? ⟨gb173, 0, none⟩ = some (.string x174000_29) := (blk_cell BK173.out 0).trans rfl
                have hcz51_1 : wc.cell? ⟨gb173, 1, none⟩ = some (.int .i64 (wrap64 (a0_1 - 1))) := (blk_cell BK173.out 1).trans rfl
                have hcz51_2 : wc.cell? ⟨gb173, 2, none⟩ = some (.bool false) := (blk_cell BK173.out 2).trans rfl
                have hfz51_0 := blk_frozen BK173.out 0
                have hfz51_1 := blk_frozen BK173.out 1
                have hfz51_2 := blk_frozen BK173.out 2
                go_wp2_with (first | ((with_reducible refine gate_dst (N := 38) rfl ?_); refine Kd.R_lit (Kd.int .u8) _ 5 ?hg (N := 38) ?hd (xs := ([a1] : List Int)) (inner := [.int .u8 a1]) (ok := fun _ => True) (okp := fun _ => True) ?hr ?hp (fun _ hk => hk) trivial (Below.refl _ _) (Nat.le_refl _) zz43 ?_; (case hd => rfl); (case hg => rfl); (case hr => first | (go_simp; done) | (go_simp; rfl)); (case hp => exact (Reps.one (show Kd.M (Kd.int .u8) _ _ _ a1 [.int .u8 a1] from rfl) (Reps.none _ _))); intro v176 w52 ho53 hb hg_ hnew_; clear hg_ hnew_; (first | rw [← Ny175.out] at ho53 | (simp only [Int.reduceToNat] at ho53; rw [← Ny175.out] at ho53)); have n0_ := Aside0.mk (Kd.R_lower ho53 (below_size zz8)); have n1_ := Aside0.mk (blk_below (g := gb173) (o := .cells #[.string x174000_29, .int .i64 (wrap64 (a0_1 - 1)), .bool false] 120 (0, 0)) zz21 hb); have n2_ := Aside0.mk (blk_below (g := gb174) (o := .cells #[.string (⟨#[]⟩ : ByteArray), .int .i64 0, .bool false] 120 (0, 0)) zz48 hb); have n3_ := Aside0.mk (below_step zz8 hb); clear BK173; clear BK174; clear HB; have HO177 := n0_; have BK173 := n1_; have BK174 := n2_; have HB := n3_; clear n0_ n1_ n2_ n3_; clear hb ho53; have hcv54 := own_string (P := Try.prog) Try.underlying76 Try.underlying5 Try.underlying9 (Kd.own_of_R HO177.out); have hcz55_0 : w52.cell? ⟨gb173, 0, none⟩ = some (.string x174000_29) := (blk_cell BK173.out 0).trans rfl; have hcz55_1 : w52.cell? ⟨gb173, 1, none⟩ = some (.int .i64 (wrap64 (a0_1 - 1))) := (blk_cell BK173.out 1).trans rfl; have hcz55_2 : w52.cell? ⟨gb173, 2, none⟩ = some (.bool false) := (blk_cell BK173.out 2).trans rfl; have hfz55_0 := blk_frozen BK173.out 0; have hfz55_1 := blk_frozen BK173.out 1; have hfz55_2 := blk_frozen BK173.out 2) | ((with_reducible refine gate_callee (f := 95) rfl ?_); refine goesL_ (some 44) rfl rfl Try.func95 zz4 rfl #[.string (x174000_29 ++ (strOfNums y175))] rfl zz5 ?_; (with_reducible refine (when_may.calls kj29 (x174000_29 ++ (strOfNums y175)) true _ A38.out).mono ?_); rintro e w' ⟨rfl, ⟨nd, rfl⟩⟩; refine ⟨_, rfl, ?_⟩) | (go_at_call 96; (with_reducible refine (when_late.calls kj29 (x174000_29 ++ (strOfNums y175)) true _ A48.out).mono ?_); rintro e w' ⟨rfl, ⟨nd, rfl⟩⟩; have hcz56_0 : w52.cell? ⟨gb174, 0, none⟩ = some (.string (⟨#[]⟩ : ByteArray)) := (blk_cell BK174.out 0).trans rfl; have hcz56_1 : w52.cell? ⟨gb174, 1, none⟩ = some (.int .i64 0) := (blk_cell BK174.out 1).trans rfl; have hcz56_2 : w52.cell? ⟨gb174, 2, none⟩ = some (.bool false) := (blk_cell BK174.out 2).trans rfl; have hfz56_0 := blk_frozen BK174.out 0; have hfz56_1 := blk_frozen BK174.out 1; have hfz56_2 := blk_frozen BK174.out 2))
                refine bodyPost_ret (results_ct rfl _ _ gb174 120 #[.string (x174000_29 ++ (strOfNums y175)), .int .i64 (wrap64 (a0_1 - 1)), .bool false] (0, 0) _ rfl (by (with_reducible repeat (first | refine blk_drewN ?_ _ | refine blk_drew ?_ | refine blk_alloc ?_ _)); refine blk_put (cs := #[.string (x174000_29 ++ (strOfNums y175)), .int .i64 (wrap64 (a0_1 - 1)), .bool false]) ?_ 2 _ rfl; (with_reducible repeat (first | refine blk_drewN ?_ _ | refine blk_drew ?_ | refine blk_alloc ?_ _)); refine blk_put (cs := #[.string (x174000_29 ++ (strOfNums y175)), .int .i64 0, .bool false]) ?_ 1 _ rfl; (with_reducible repeat (first | refine blk_drewN ?_ _ | refine blk_drew ?_ | refine blk_alloc ?_ _)); refine blk_put (cs := #[.string (⟨#[]⟩ : ByteArray), .int .i64 0, .bool false]) ?_ 0 _ rfl; (with_reducible repeat (first | refine blk_drewN ?_ _ | refine blk_drew ?_ | refine blk_alloc ?_ _)); refine blk_far ?_ NB174_173.out _; (with_reducible repeat (first | refine blk_drewN ?_ _ | refine blk_drew ?_ | refine blk_alloc ?_ _)); exact BK174.out) Try.underlying120 rfl zz4) rfl ?_
                exact ⟨zz3, zz8⟩
               ·
                replace c49 := Bool.eq_false_iff.mpr c49
                subst c49
                have H1 : (some ((⟨#[]⟩ : ByteArray), 0, false, false)) = some (r1, r2, r3, r4) := by rw [if_neg (show ¬ (false = true) by decide)] at H; exact H
                clear H
                have H := H1
                clear H1
                simp only [Option.some.injEq, Prod.mk.injEq] at H
                obtain ⟨rfl, rfl, rfl, rfl⟩ := H
                have hnb57 := NB173_174.out
                have hnc57 := NB174_173.out
                have hcz58_0 : wc.cell? ⟨gb173, 0, none⟩ = some (.string x174000_29) := (blk_cell BK173.out 0).trans rfl
                have hcz58_1 : wc.cell? ⟨gb173, 1, none⟩ = some (.int .i64 (wrap64 (a0_1 - 1))) := (blk_cell BK173.out 1).trans rfl
                have hcz58_2 : wc.cell? ⟨gb173, 2, none⟩ = some (.bool false) := (blk_cell BK173.out 2).trans rfl
                have hfz58_0 := blk_frozen BK173.out 0
                have hfz58_1 := blk_frozen BK173.out 1
                have hfz58_2 := blk_frozen BK173.out 2
                go_wp2_with (first | ((with_reducible refine gate_dst (N := 38) rfl ?_); refine Kd.R_lit (Kd.int .u8) _ 5 ?hg (N := 38) ?hd (xs := ([a1] : List Int)) (inner := [.int .u8 a1]) (ok := fun _ => True) (okp := fun _ => True) ?hr ?hp (fun _ hk => hk) trivial (Below.refl _ _) (Nat.le_refl _) zz43 ?_; (case hd => rfl); (case hg => rfl); (case hr => first | (go_simp; done) | (go_simp; rfl)); (case hp => exact (Reps.one (show Kd.M (Kd.int .u8) _ _ _ a1 [.int .u8 a1] from rfl) (Reps.none _ _))); intro v176 w59 ho60 hb hg_ hnew_; clear hg_ hnew_; (first | rw [← Ny175.out] at ho60 | (simp only [Int.reduceToNat] at ho60; rw [← Ny175.out] at ho60)); have n0_ := Aside0.mk (Kd.R_lower ho60 (below_size zz8)); have n1_ := Aside0.mk (blk_below (g := gb173) (o := .cells #[.string x174000_29, .int .i64 (wrap64 (a0_1 - 1)), .bool false] 120 (0, 0)) zz21 hb); have n2_ := Aside0.mk (blk_below (g := gb174) (o := .cells #[.string (⟨#[]⟩ : ByteArray), .int .i64 0, .bool false] 120 (0, 0)) zz48 hb); have n3_ := Aside0.mk (below_step zz8 hb); clear BK173; clear BK174; clear HB; have HO177 := n0_; have BK173 := n1_; have BK174 := n2_; have HB := n3_; clear n0_ n1_ n2_ n3_; clear hb ho60; have hcv61 := own_string (P := Try.prog) Try.underlying76 Try.underlying5 Try.underlying9 (Kd.own_of_R HO177.out); have hcz62_0 : w59.cell? ⟨gb173, 0, none⟩ = some (.string x174000_29) := (blk_cell BK173.out 0).trans rfl; have hcz62_1 : w59.cell? ⟨gb173, 1, none⟩ = some (.int .i64 (wrap64 (a0_1 - 1))) := (blk_cell BK173.out 1).trans rfl; have hcz62_2 : w59.cell? ⟨gb173, 2, none⟩ = some (.bool false) := (blk_cell BK173.out 2).trans rfl; have hfz62_0 := blk_frozen BK173.out 0; have hfz62_1 := blk_frozen BK173.out 1; have hfz62_2 := blk_frozen BK173.out 2) | ((with_reducible refine gate_callee (f := 95) rfl ?_); refine goesL_ (some 44) rfl rfl Try.func95 zz4 rfl #[.string (x174000_29 ++ (strOfNums y175))] rfl zz5 ?_; (with_reducible refine (when_may.calls kj29 (x174000_29 ++ (strOfNums y175)) true _ A38.out).mono ?_); rintro e w' ⟨rfl, ⟨nd, rfl⟩⟩; refine ⟨_, rfl, ?_⟩) | (go_at_call 96; (with_reducible refine (when_late.calls kj29 (x174000_29 ++ (strOfNums y175)) false _ A48.out).mono ?_); rintro e w' ⟨rfl, ⟨nd, rfl⟩⟩; have hcz63_0 : w59.cell? ⟨gb174, 0, none⟩ = some (.string (⟨#[]⟩ : ByteArray)) := (blk_cell BK174.out 0).trans rfl; have hcz63_1 : w59.cell? ⟨gb174, 1, none⟩ = some (.int .i64 0) := (blk_cell BK174.out 1).trans rfl; have hcz63_2 : w59.cell? ⟨gb174, 2, none⟩ = some (.bool false) := (blk_cell BK174.out 2).trans rfl; have hfz63_0 := blk_frozen BK174.out 0; have hfz63_1 := blk_frozen BK174.out 1; have hfz63_2 := blk_frozen BK174.out 2))
                refine bodyPost_ret (results_ct rfl _ _ gb174 120 #[.string (⟨#[]⟩ : ByteArray), .int .i64 0, .bool false] (0, 0) _ rfl zz30 Try.underlying120 rfl zz4) rfl ?_
                exact ⟨zz3, zz8⟩
             ·
              replace c39 := Bool.eq_false_iff.mpr c39
              subst c39
              have H1 : (some ((⟨#[]⟩ : ByteArray), 0, false, false)) = some (r1, r2, r3, r4) := by rw [if_neg (show ¬ (false = true) by decide)] at H; exact H
              clear H
              have H := H1
              clear H1
              simp only [Option.some.injEq, Prod.mk.injEq] at H
              obtain ⟨rfl, rfl, rfl, rfl⟩ := H
              have hnb64 := NB173_174.out
              have hnc64 := NB174_173.out
              have hcz65_0 : wc.cell? ⟨gb173, 0, none⟩ = some (.string x174000_29) := (blk_cell BK173.out 0).trans rfl
              have hcz65_1 : wc.cell? ⟨gb173, 1, none⟩ = some (.int .i64 (wrap64 (a0_1 - 1))) := (blk_cell BK173.out 1).trans rfl
              have hcz65_2 : wc.cell? ⟨gb173, 2, none⟩ = some (.bool a0_2) := (blk_cell BK173.out 2).trans rfl
              have hfz65_0 := blk_frozen BK173.out 0
              have hfz65_1 := blk_frozen BK173.out 1
              have hfz65_2 := blk_frozen BK173.out 2
              go_wp2_with (first | ((with_reducible refine gate_dst (N := 38) rfl ?_); refine Kd.R_lit (Kd.int .u8) _ 5 ?hg (N := 38) ?hd (xs := ([a1] : List Int)) (inner := [.int .u8 a1]) (ok := fun _ => True) (okp := fun _ => True) ?hr ?hp (fun _ hk => hk) trivial (Below.refl _ _) (Nat.le_refl _) zz43 ?_; (case hd => rfl); (case hg => rfl); (case hr => first | (go_simp; done) | (go_simp; rfl)); (case hp => exact (Reps.one (show Kd.M (Kd.int .u8) _ _ _ a1 [.int .u8 a1] from rfl) (Reps.none _ _))); intro v176 w66 ho67 hb hg_ hnew_; clear hg_ hnew_; (first | rw [← Ny175.out] at ho67 | (simp only [Int.reduceToNat] at ho67; rw [← Ny175.out] at ho67)); have n0_ := Aside0.mk (Kd.R_lower ho67 (below_size zz8)); have n1_ := Aside0.mk (blk_below (g := gb173) (o := .cells #[.string x174000_29, .int .i64 (wrap64 (a0_1 - 1)), .bool a0_2] 120 (0, 0)) zz21 hb); have n2_ := Aside0.mk (blk_below (g := gb174) (o := .cells #[.string (⟨#[]⟩ : ByteArray), .int .i64 0, .bool false] 120 (0, 0)) zz48 hb); have n3_ := Aside0.mk (below_step zz8 hb); clear BK173; clear BK174; clear HB; have HO177 := n0_; have BK173 := n1_; have BK174 := n2_; have HB := n3_; clear n0_ n1_ n2_ n3_; clear hb ho67; have hcv68 := own_string (P := Try.prog) Try.underlying76 Try.underlying5 Try.underlying9 (Kd.own_of_R HO177.out); have hcz69_0 : w66.cell? ⟨gb173, 0, none⟩ = some (.string x174000_29) := (blk_cell BK173.out 0).trans rfl; have hcz69_1 : w66.cell? ⟨gb173, 1, none⟩ = some (.int .i64 (wrap64 (a0_1 - 1))) := (blk_cell BK173.out 1).trans rfl; have hcz69_2 : w66.cell? ⟨gb173, 2, none⟩ = some (.bool a0_2) := (blk_cell BK173.out 2).trans rfl; have hfz69_0 := blk_frozen BK173.out 0; have hfz69_1 := blk_frozen BK173.out 1; have hfz69_2 := blk_frozen BK173.out 2) | ((with_reducible refine gate_callee (f := 95) rfl ?_); refine goesL_ (some 44) rfl rfl Try.func95 zz4 rfl #[.string (x174000_29 ++ (strOfNums y175))] rfl zz5 ?_; (with_reducible refine (when_may.calls kj29 (x174000_29 ++ (strOfNums y175)) false _ A38.out).mono ?_); rintro e w' ⟨rfl, ⟨nd, rfl⟩⟩; refine ⟨_, rfl, ?_⟩; have hcz70_0 : w66.cell? ⟨gb174, 0, none⟩ = some (.string (⟨#[]⟩ : ByteArray)) := (blk_cell BK174.out 0).trans rfl; have hcz70_1 : w66.cell? ⟨gb174, 1, none⟩ = some (.int .i64 0) := (blk_cell BK174.out 1).trans rfl; have hcz70_2 : w66.cell? ⟨gb174, 2, none⟩ = some (.bool false) := (blk_cell BK174.out 2).trans rfl; have hfz70_0 := blk_frozen BK174.out 0; have hfz70_1 := blk_frozen BK174.out 1; have hfz70_2 := blk_frozen BK174.out 2))
              refine bodyPost_ret (results_ct rfl _ _ gb174 120 #[.string (⟨#[]⟩ : ByteArray), .int .i64 0, .bool false] (0, 0) _ rfl zz30 Try.underlying120 rfl zz4) rfl ?_
              exact ⟨zz3, zz8⟩
            ·
             rw [if_neg c37] at H
             exact absurd H zz43
end Go.Proofs.Ytgddaddoabjgiaa.PB
namespace Go.Proofs.Ytgddaddoabjgiaa.PB
open RowKit YtgddaddoabjgiaaW.PrintWords YtgddaddoabjgiaaW.PrintLast YtgddaddoabjgiaaW.PrintMore
attribute [local go_sem] max2_int min2_int max_two min_two max_three min_three max_four min_four
set_option linter.unusedVariables false
set_option linter.unusedSimpArgs false
def when_Get.l0 : Nat → ByteArray → Bool → Int → ByteArray → Int → Bool → Option (ByteArray × Bool)
 | 0, _, _, _, _, _, _ => none
 | k + 1, x1, x7, x8, x185000, x185001, x185002 => if x7 = true then (if x8 < (x1.size : Int) then (if 0 ≤ x8 then ((when_State_Push.f k x185000 x185001 x185002 (bt x1 x8)).bind fun bt185 => (when_Get.l0 k x1 bt185.2.2.2 (wrap64 (x8 + 1)) bt185.1 bt185.2.1 bt185.2.2.1)) else (none)) else (some (x185000, true))) else (some ((⟨#[]⟩ : ByteArray), false))
def when_Get.f (k : Nat) (a0 : Int) (a1 : ByteArray) : Option (ByteArray × Bool) := (when_Start.f a0 (a1.size : Int)).bind fun bt180 => (when_Get.l0 k a1 bt180.2.2.2 0 bt180.1 bt180.2.1 bt180.2.2.1)
def when_Get.T5 : Bool × List (List Nat × List Nat) := (true, [([], []), ([], []), ([], []), ([1, 2], [1, 2]), ([0, 3], [0, 3]), ([4], [4]), ([5], [5]), ([5], [5]), ([6, 4, 0, 1, 2, 3, 4, 5, 6], [6]), ([7, 8, 0, 1, 2, 3, 4, 5, 6, 7, 8], [7])])
def when_Get.B5 : List Nat := [0, 0, 0, 6, 15, 31, 63, 63, 127, 511]
theorem when_Get.tab5 : rtab .any (opsOf Try.f72 5) = when_Get.T5 := by kernel_rfl
theorem when_Get.bits5 : waitsOk when_Get.T5.2 when_Get.B5 = true := by kernel_rfl
set_option maxHeartbeats 8000000 in
set_option maxRecDepth 100000 in
theorem when_Get.calls (k : Nat) (a0 : Int) (a1 : ByteArray) (r1 : ByteArray) (r2 : Bool) (w : World) (h : when_Get.f k a0 a1 = some (r1, r2)) :
 Calls Try.prog 72 #[.int .i64 a0, .string a1] w fun e w' => e = .returned (.tuple #[.string r1, .bool r2]) ∧ Below w.heap.size w w' := by
 have hu120 := Try.underlying120
 have HB := Aside0.mk (Below.refl w.heap.size w)
 have H : ((when_Start.f a0 (a1.size : Int)).bind fun bt180 => (when_Get.l0 k a1 bt180.2.2.2 0 bt180.1 bt180.2.1 bt180.2.2.1)) = some (r1, r2) := h
 clear h
 replace H := Option.bind_eq_some_iff.mp H
 obtain ⟨⟨t180, t181, t182, t183⟩, A30, H⟩ := H
 replace H : (when_Get.l0 k a1 t183 0 t180 t181 t182) = some (r1, r2) := H
 have A3 := Aside0.mk A30
 clear A30
 have H' := Aside0.mk H
 clear H
 go_enter Try.func72, Try.ntmps72
 go_wp2_with (first | ((with_reducible refine gate_callee (f := 85) rfl ?_); refine goesL_ (some 13) rfl rfl Try.func85 zz4 rfl #[.int .i64 a0, .int .i64 (a1.size : Int)] rfl zz5 ?_; (with_reducible refine (when_Start.calls a0 (a1.size : Int) t180 t181 t182 t183 _ A3.out).mono ?_); rintro e w4 ⟨rfl, hb⟩; refine ⟨_, rfl, ?_⟩; have n0_ := Aside0.mk (below_step zz1 hb); clear HB; have HB := n0_; clear n0_; (try clear hb); (try clear hb2); (try clear hk); (try clear hi)) | ((with_reducible refine gate_dst (N := 6) rfl ?_); (try (refine gate_guard zz54 ?_; dsimp only)); refine zzbx (N := 6) (cs := #[.string (⟨#[]⟩ : ByteArray), .int .i64 0, .bool false]) (t := 120) ?_; intro gb184 hg w5 hbox hb; have n0_ := Aside0.mk (below_step zz1 hb); have n1_ := Aside0.mk (hbox); have n2_ := Aside0.mk ((zz15 : w.heap.size ≤ gb184)); have n3_ := Aside0.mk ((zz15 : w.heap.size ≤ gb184)); clear HB; have HB := n0_; have BK184 := n1_; have GW184 := n2_; have GE184 := n3_; clear n0_ n1_ n2_ n3_; clear hb hbox hg; have hcz6_0 : w5.cell? ⟨gb184, 0, none⟩ = some (.string (⟨#[]⟩ : ByteArray)) := (blk_cell BK184.out 0).trans rfl; have hcz6_1 : w5.cell? ⟨gb184, 1, none⟩ = some (.int .i64 0) := (blk_cell BK184.out 1).trans rfl; have hcz6_2 : w5.cell? ⟨gb184, 2, none⟩ = some (.bool false) := (blk_cell BK184.out 2).trans rfl; have hfz6_0 := blk_frozen BK184.out 0; have hfz6_1 := blk_frozen BK184.out 1; have hfz6_2 := blk_frozen BK184.out 2))
 go_loopg [7, 8] k (fun kq v7 v8 w' => ∃ (x7_1 : Bool) (x8_1 : Int) (x185000_1 : ByteArray) (x185001_1 : Int) (x185002_1 : Bool), v7 = .bool x7_1 ∧ v8 = .int .i64 x8_1 ∧ Aside0 (when_Get.l0 kq a1 x7_1 x8_1 x185000_1 x185001_1 x185002_1 = some (r1, r2)) ∧ Aside0 (kq ≤ k) ∧ Aside0 (w'.heap[gb184]? = some (.cells #[.string x185000_1, .int .i64 x185001_1, .bool x185002_1] 120 (0, 0))) ∧ Aside0 (Below w.heap.size w w'))
 case atStart => exact ⟨(t183), (0), (t180), (t181), (t182), zz0, zz0, H', ⟨Nat.le_refl _⟩, ⟨by (with_reducible repeat (first | refine blk_drewN ?_ _ | refine blk_drew ?_ | refine blk_alloc ?_ _)); refine blk_put (cs := #[.string t180, .int .i64 t181, .bool false]) ?_ 2 _ rfl; (with_reducible repeat (first | refine blk_drewN ?_ _ | refine blk_drew ?_ | refine blk_alloc ?_ _)); refine blk_put (cs := #[.string t180, .int .i64 0, .bool false]) ?_ 1 _ rfl; (with_reducible repeat (first | refine blk_drewN ?_ _ | refine blk_drew ?_ | refine blk_alloc ?_ _)); refine blk_put (cs := #[.string (⟨#[]⟩ : ByteArray), .int .i64 0, .bool false]) ?_ 0 _ rfl; (with_reducible repeat (first | refine blk_drewN ?_ _ | refine blk_drew ?_ | refine blk_alloc ?_ _)); exact BK184.out⟩, ⟨zz51⟩⟩
 case round =>
  clear H'
  try clear p2
  try clear hcz6_0
  try clear hcz6_1
  try clear hcz6_2
  try clear hfz6_0
  try clear hfz6_1
  try clear hfz6_2
  obtain ⟨x7_1, x8_1, x185000_1, x185001_1, x185002_1, rfl, rfl, HA, HK1, BK184, HB⟩ := hrel
  cases gk with
  | zero => exact absurd HA.out (by simp [when_Get.l0])
  | succ k1 =>
    have H := HA.out
    clear HA
    simp only [when_Get.l0] at H
    by_cases c7 : x7_1 = true
    ·
     subst c7
     have H1 : (if x8_1 < (a1.size : Int) then (if 0 ≤ x8_1 then ((when_State_Push.f k1 x185000_1 x185001_1 x185002_1 (bt a1 x8_1)).bind fun bt185 => (when_Get.l0 k1 a1 bt185.2.2.2 (wrap64 (x8_1 + 1)) bt185.1 bt185.2.1 bt185.2.2.1)) else (none)) else (some (x185000_1, true))) = some (r1, r2) := by rw [if_pos rfl] at H; exact H
     clear H
     have H := H1
     clear H1
     by_cases c8 : x8_1 < (a1.size : Int)
     ·
      rw [if_pos c8] at H
      have c8b0 : decide (x8_1 < (a1.size : Int)) = true := decide_eq_true c8
      clear c8
      by_cases c9 : 0 ≤ x8_1
      ·
       rw [if_pos c9] at H
       have c9b0 : decide (0 ≤ x8_1) = true := decide_eq_true c9
       clear c9
       replace H := Option.bind_eq_some_iff.mp H
       obtain ⟨⟨t185, t186, t187, t188⟩, A110, H⟩ := H
       replace H : (when_Get.l0 k1 a1 t188 (wrap64 (x8_1 + 1)) t185 t186 t187) = some (r1, r2) := H
       have A11 := Aside0.mk A110
       clear A110
       have H' := Aside0.mk H
       clear H
       try go_wp2
       have n0_ := Aside0.mk (blk_drew BK184.out)
       have n1_ := Aside0.mk (below_drew1 HB.out)
       clear BK184
       clear HB
       have BK184 := n0_
       have HB := n1_
       clear n0_ n1_
       have p10 : 0 ≤ (x8_1 : Int) := of_decide_eq_true zz6
       have q10 : x8_1 < (a1.size : Int) := of_decide_eq_true zz6
       have hx10 := bt_at a1 x8_1
       replace p10 := eq_true p10
       replace q10 := eq_true q10
       refine start_ (n := 10) (S := fun w' => w'.cell? ⟨gb184, 0, none⟩ = some (.string x185000_1) ∧ w'.cell? ⟨gb184, 1, none⟩ = some (.int .i64 x185001_1) ∧ w'.cell? ⟨gb184, 2, none⟩ = some (.bool x185002_1)) (ds := [8]) #[false, false, false, false, false, false, false, false, false, false] zz4 rfl rfl ⟨(blk_cell BK184.out 0).trans rfl, (blk_cell BK184.out 1).trans rfl, (blk_cell BK184.out 2).trans rfl⟩ (fun hHeld => ?_); refine with_tabW when_Get.tab5 when_Get.bits5 (fun HT_ HW_ => ?_)
       generalize wr.drew = w12 at BK184 HB hHeld ⊢
       refine pure_ (i := 1) (N := some 27) (v := ?_) (a' := ?_) #[false, true, false, false, false, false, false, false, false, false] rfl rfl (any_of HT_.out zz4) (fun _ _ _ h => h) (Or.inl ⟨zz54, ?_⟩) ?_ ?_
       rotate_left
       ·
        intro w'
        go_simp
        with_reducible rfl
       rotate_left
       ·
        simp only [Act.put, List.setIfInBounds_toArray, List.set_cons_zero, List.set_cons_succ, i64_w, i32_w]
        rfl
       refine pure_ (i := 2) (N := some 28) (v := ?_) (a' := ?_) #[false, true, true, false, false, false, false, false, false, false] rfl rfl (any_of HT_.out zz4) (fun _ _ _ h => h) (Or.inl ⟨zz54, ?_⟩) ?_ ?_
       rotate_left
       ·
        intro w'
        go_simp
        with_reducible rfl
       rotate_left
       ·
        simp only [Act.put, List.setIfInBounds_toArray, List.set_cons_zero, List.set_cons_succ, i64_w, i32_w]
        rfl
       refine take_ (i := 0) (N := some 26) (v := ?_) (a' := ?_) #[true, true, true, false, false, false, false, false, false, false] rfl rfl (take_ofW HT_.out HW_.out zz4) (fun _ _ _ h => h) (Or.inl ⟨zz54, ?_⟩) hHeld ?_ ?_
       rotate_left
       ·
        rintro w' ⟨s0, s1, s2⟩
        go_simp
        with_reducible rfl
       rotate_left
       ·
        simp only [Act.put, List.setIfInBounds_toArray, List.set_cons_zero, List.set_cons_succ, i64_w, i32_w]
        rfl
       refine take_ (i := 3) (N := some 29) (v := ?_) (a' := ?_) #[true, true, true, true, false, false, false, false, false, false] rfl rfl (take_ofW HT_.out HW_.out zz4) (fun _ _ _ h => h) (Or.inl ⟨zz54, ?_⟩) hHeld ?_ ?_
       rotate_left
       ·
        rintro w' ⟨s0, s1, s2⟩
        go_simp
        with_reducible rfl
       rotate_left
       ·
        simp only [Act.put, List.setIfInBounds_toArray, List.set_cons_zero, List.set_cons_succ, i64_w, i32_w]
        rfl
       refine one_ (i := 4) (N := some 30) #[true, true, true, true, true, false, false, false, false, false] rfl rfl (one_of HT_.out zz4) zz13 (fun K hK => ?_)
       refine goes_ Try.func86 zz4 rfl #[.agg #[.string x185000_1, .int .i64 x185001_1, .bool x185002_1], .int .u8 (bt a1 x8_1)] zz54 rfl rfl zz5 ?_
       with_reducible refine (when_State_Push.calls k1 x185000_1 x185001_1 x185002_1 (bt a1 x8_1) t185 t186 t187 t188 _ A11.out).mono ?_
       rintro e w13 ⟨rfl, hb⟩
       refine ⟨_, rfl, ?_⟩
       have n0_ := Aside0.mk (blk_below (g := gb184) (o := .cells #[.string x185000_1, .int .i64 x185001_1, .bool x185002_1] 120 (0, 0)) (by (with_reducible repeat (first | refine blk_drewN ?_ _ | refine blk_drew ?_ | refine blk_alloc ?_ _)); exact BK184.out) hb)
       have n1_ := Aside0.mk (below_step zz51 hb)
       clear BK184
       clear HB
       have BK184 := n0_
       have HB := n1_
       clear n0_ n1_
       (try clear hb)
       (try clear hb2)
       (try clear hk)
       (try clear hi)
       refine hK.out _ _ ⟨(blk_cell BK184.out 0).trans rfl, (blk_cell BK184.out 1).trans rfl, (blk_cell BK184.out 2).trans rfl⟩ (fun hHeld => ?_)
       clear hK K
       refine norm_ (a' := ?_) ?_ ?_
       rotate_left
       ·
        show Act.put _ (some 30) _ = _
        simp only [Act.put, List.setIfInBounds_toArray, List.set_cons_zero, List.set_cons_succ, i64_w, i32_w]
        rfl
       refine pure_ (i := 5) (N := some 25) (v := ?_) (a' := ?_) #[true, true, true, true, true, true, false, false, false, false] rfl rfl (any_of HT_.out zz4) (fun _ _ _ h => h) (Or.inl ⟨zz54, ?_⟩) ?_ ?_
       rotate_left
       ·
        intro w'
        go_simp
        with_reducible rfl
       rotate_left
       ·
        simp only [Act.put, List.setIfInBounds_toArray, List.set_cons_zero, List.set_cons_succ, i64_w, i32_w]
        rfl
       refine pure_ (i := 6) (N := some 31) (v := ?_) (a' := ?_) #[true, true, true, true, true, true, true, false, false, false] rfl rfl (any_of HT_.out zz4) (fun _ _ _ h => h) (Or.inl ⟨zz54, ?_⟩) ?_ ?_
       rotate_left
       ·
        intro w'
        go_simp
        with_reducible rfl
       rotate_left
       ·
        simp only [Act.put, List.setIfInBounds_toArray, List.set_cons_zero, List.set_cons_succ, i64_w, i32_w]
        rfl
       refine pure_ (i := 7) (N := some 32) (v := ?_) (a' := ?_) #[true, true, true, true, true, true, true, true, false, false] rfl rfl (any_of HT_.out zz4) (fun _ _ _ h => h) (Or.inl ⟨zz54, ?_⟩) ?_ ?_
       rotate_left
       ·
        intro w'
        go_simp
        with_reducible rfl
       rotate_left
       ·
        simp only [Act.put, List.setIfInBounds_toArray, List.set_cons_zero, List.set_cons_succ, i64_w, i32_w]
        rfl
       refine last_ (i := 8) (N := none) #[true, true, true, true, true, true, true, true, true, false] rfl rfl (one_of HT_.out zz4) zz13 (fun K hK => ?_)
       have hs14 : w13.cell? ⟨gb184, 0, none⟩ = some (.string x185000_1) := (blk_cell BK184.out 0).trans rfl
       have hfs14 := blk_frozen BK184.out 0
       have hs15 : w13.cell? ⟨gb184, 1, none⟩ = some (.int .i64 x185001_1) := (blk_cell BK184.out 1).trans rfl
       have hfs15 := blk_frozen BK184.out 1
       have hs16 : w13.cell? ⟨gb184, 2, none⟩ = some (.bool x185002_1) := (blk_cell BK184.out 2).trans rfl
       have hfs16 := blk_frozen BK184.out 2
       refine skip_ (w1 := ?_) zz54 rfl ?_ ?_
       rotate_left
       ·
        go_simp
        rfl
       refine hK.out _ _ ?_
       clear hK K
       refine pure_ (i := 9) (N := some 7) (v := ?_) (a' := ?_) #[true, true, true, true, true, true, true, true, true, true] rfl rfl (any_of HT_.out zz4) (fun _ _ _ h => h) (Or.inl ⟨zz54, ?_⟩) ?_ ?_
       rotate_left
       ·
        intro w'
        go_simp
        with_reducible rfl
       rotate_left
       ·
        simp only [Act.put, List.setIfInBounds_toArray, List.set_cons_zero, List.set_cons_succ, i64_w, i32_w]
        rfl
       refine done_ (done_of HT_.out zz4) ?_
       try go_wp2
       go_roundg k1
       case measure => have := HK1.out; omega
       case rel => exact ⟨(t188), (wrap64 (x8_1 + 1)), (t185), (t186), (t187), zz0, zz0, H', ⟨zz68⟩, ⟨by (with_reducible repeat (first | refine blk_drewN ?_ _ | refine blk_drew ?_ | refine blk_alloc ?_ _)); refine blk_put (cs := #[.string t185, .int .i64 t186, .bool x185002_1]) ?_ 2 _ rfl; (with_reducible repeat (first | refine blk_drewN ?_ _ | refine blk_drew ?_ | refine blk_alloc ?_ _)); refine blk_put (cs := #[.string t185, .int .i64 x185001_1, .bool x185002_1]) ?_ 1 _ rfl; (with_reducible repeat (first | refine blk_drewN ?_ _ | refine blk_drew ?_ | refine blk_alloc ?_ _)); refine blk_put (cs := #[.string x185000_1, .int .i64 x185001_1, .bool x185002_1]) ?_ 0 _ rfl; (with_reducible repeat (first | refine blk_drewN ?_ _ | refine blk_drew ?_ | refine blk_alloc ?_ _)); exact BK184.out⟩, ⟨zz51⟩⟩
      ·
       rw [if_neg c9] at H
       exact absurd H zz43
     ·
      rw [if_neg c8] at H
      have c8b0 : decide (x8_1 < (a1.size : Int)) = false := decide_eq_false c8
      clear c8
      simp only [Option.some.injEq, Prod.mk.injEq] at H
      obtain ⟨rfl, rfl⟩ := H
      have hcz17_0 : wr.cell? ⟨gb184, 0, none⟩ = some (.string x185000_1) := (blk_cell BK184.out 0).trans rfl
      have hcz17_1 : wr.cell? ⟨gb184, 1, none⟩ = some (.int .i64 x185001_1) := (blk_cell BK184.out 1).trans rfl
      have hcz17_2 : wr.cell? ⟨gb184, 2, none⟩ = some (.bool x185002_1) := (blk_cell BK184.out 2).trans rfl
      have hfz17_0 := blk_frozen BK184.out 0
      have hfz17_1 := blk_frozen BK184.out 1
      have hfz17_2 := blk_frozen BK184.out 2
      go_wp2
      go_ret2
      exact ⟨zz3, zz51⟩
    ·
     replace c7 := Bool.eq_false_iff.mpr c7
     subst c7
     have H1 : (some ((⟨#[]⟩ : ByteArray), false)) = some (r1, r2) := by rw [if_neg (show ¬ (false = true) by decide)] at H; exact H
     clear H
     have H := H1
     clear H1
     simp only [Option.some.injEq, Prod.mk.injEq] at H
     obtain ⟨rfl, rfl⟩ := H
     go_wp2
     go_ret2
     exact ⟨zz3, zz51⟩
end Go.Proofs.Ytgddaddoabjgiaa.PB
namespace Go.Proofs.Ytgddaddoabjgiaa.BDat
open RowKit PB YtgddaddoabjgiaaW.PrintWords YtgddaddoabjgiaaW.PrintLast YtgddaddoabjgiaaW.PrintMore
open Bs
open Dt
set_option linter.unusedVariables false
theorem bytesOf_part (s : ByteArray) (a b : Nat) : bytesOf (s.extract a b) = ((bytesOf s).drop a).take (b - a) := by
 simp only [bytesOf, ByteArray.data_extract, Array.toList_extract, List.extract_eq_take_drop, List.map_take, List.map_drop]
theorem bt_part (s : ByteArray) (a b : Nat) (i : Nat) (h : i < b - a) : bt (s.extract a b) (i : Int) = bt s ((a + i : Nat) : Int) := by
 rw [bt_get, bt_get, bytesOf_part, Int.toNat_natCast, Int.toNat_natCast, List.getD_eq_getElem?_getD, List.getD_eq_getElem?_getD, List.getElem?_take_of_lt h, List.getElem?_drop]
theorem at_bt (s : ByteArray) (i : Nat) : Dt.at_ (bytesOf s) i = bt s (i : Int) - 48 := by
 rw [bt_get, Int.toNat_natCast]; rfl
theorem at_dig {s : ByteArray} (h : Digs (bytesOf s)) (i : Nat) (hi : i < s.size) : 0 ≤ bt s (i : Int) - 48 ∧ bt s (i : Int) - 48 ≤ 9 := by
 rw [← at_bt]; exact at_range h (by rw [bytesOf_length]; exact hi)
theorem num_step (k : Nat) (s : ByteArray) (a z i : Int) (h0 : 0 ≤ i) (h1 : i < z) (h2 : i < s.size) (hz : i < 100) (ha : 0 ≤ a ∧ a ≤ 100000) (hb : 0 ≤ bt s i - 48 ∧ bt s i - 48 ≤ 9) :
 when_number.l0 (k + 1) s a z i = when_number.l0 k s (10 * a + (bt s i - 48)) z (i + 1) := by
 rw [when_number.l0, if_pos h1, if_pos h0, if_pos h2, w64 (x := 10 * a) zz7 zz7, Int.emod_eq_of_lt zz7 zz7, w64 zz7 zz7, w64 zz7 zz7]
theorem num_end (k : Nat) (s : ByteArray) (a z i : Int) (h1 : ¬ i < z) : when_number.l0 (k + 1) s a z i = some a := by
 rw [when_number.l0, if_neg h1]
theorem num1 (k : Nat) (s : ByteArray) (h : s.size = 1) (b0 : 0 ≤ bt s 0 - 48 ∧ bt s 0 - 48 ≤ 9) : when_number.f (k + 2) s = some (bt s 0 - 48) := by
 unfold when_number.f
 rw [h, num_step (k + 1) s 0 _ 0 zz7 zz7 zz7 zz7 zz7 b0, num_end _ _ _ _ _ zz7]
 congr 1; omega
theorem num2 (k : Nat) (s : ByteArray) (h : s.size = 2) (b0 : 0 ≤ bt s 0 - 48 ∧ bt s 0 - 48 ≤ 9) (b1 : 0 ≤ bt s 1 - 48 ∧ bt s 1 - 48 ≤ 9) : when_number.f (k + 3) s = some (10 * (bt s 0 - 48) + (bt s 1 - 48)) := by
 unfold when_number.f
 rw [h, num_step (k + 2) s 0 _ 0 zz7 zz7 zz7 zz7 zz7 b0, show (0 : Int) + 1 = 1 from rfl, num_step (k + 1) s _ _ _ zz7 zz7 zz7 zz7 zz7 b1, num_end _ _ _ _ _ zz7]
 congr 1; omega
theorem num4 (k : Nat) (s : ByteArray) (h : s.size = 4) (b0 : 0 ≤ bt s 0 - 48 ∧ bt s 0 - 48 ≤ 9) (b1 : 0 ≤ bt s 1 - 48 ∧ bt s 1 - 48 ≤ 9) (b2 : 0 ≤ bt s 2 - 48 ∧ bt s 2 - 48 ≤ 9) (b3 : 0 ≤ bt s 3 - 48 ∧ bt s 3 - 48 ≤ 9) :
 when_number.f (k + 5) s = some (1000 * (bt s 0 - 48) + 100 * (bt s 1 - 48) + 10 * (bt s 2 - 48) + (bt s 3 - 48)) := by
 unfold when_number.f
 rw [h, num_step (k + 4) s 0 _ 0 zz7 zz7 zz7 zz7 zz7 b0, show (0 : Int) + 1 = 1 from rfl, num_step (k + 3) s _ _ _ zz7 zz7 zz7 zz7 zz7 b1,
  show (1 : Int) + 1 = 2 from rfl, num_step (k + 2) s _ _ _ zz7 zz7 zz7 zz7 zz7 b2, show (2 : Int) + 1 = 3 from rfl, num_step (k + 1) s _ _ _ zz7 zz7 zz7 zz7 zz7 b3, num_end _ _ _ _ _ zz7]
 congr 1; omega
theorem year_eq (k : Nat) (s : ByteArray) (h : Digs (bytesOf s)) (h4 : 4 ≤ s.size) : when_number.f (k + 5) (s.extract 0 4) = some (yr (bytesOf s)) := by
 have e := fun i (hi : i < 4) => bt_part s 0 4 i zz7
 have e0 := e 0 zz7; have e1 := e 1 zz7; have e2 := e 2 zz7; have e3 := e 3 zz7
 simp only [Nat.zero_add] at e0 e1 e2 e3
 have d0 := at_dig h 0 zz7; have d1 := at_dig h 1 zz7; have d2 := at_dig h 2 zz7; have d3 := at_dig h 3 zz7
 rw [← e0] at d0; rw [← e1] at d1; rw [← e2] at d2; rw [← e3] at d3
 rw [num4 k _ (by rw [ByteArray.size_extract]; omega) d0 d1 d2 d3]
 unfold yr
 rw [at_bt, at_bt, at_bt, at_bt, ← e0, ← e1, ← e2, ← e3]; rfl
theorem pair_eq (k : Nat) (s : ByteArray) (h : Digs (bytesOf s)) (p q : Nat) (hq : q = p + 2) (hs : q ≤ s.size) : when_number.f (k + 3) (s.extract p q) = some (Dt.two (bytesOf s) p) := by
 subst hq
 have e0 := bt_part s p (p + 2) 0 zz7; have e1 := bt_part s p (p + 2) 1 zz7
 have d0 := at_dig h p zz7; have d1 := at_dig h (p + 1) zz7
 rw [Nat.add_zero p] at e0
 rw [← e0] at d0; rw [← e1] at d1
 rw [num2 k _ (by rw [ByteArray.size_extract]; omega) d0 d1]
 unfold Dt.two
 rw [at_bt, at_bt, ← e0, ← e1]; rfl
theorem one_eq (k : Nat) (s : ByteArray) (h : Digs (bytesOf s)) (p q : Nat) (hq : q = p + 1) (hs : q ≤ s.size) : when_number.f (k + 2) (s.extract p q) = some (Dt.at_ (bytesOf s) p) := by
 subst hq
 have e0 := bt_part s p (p + 1) 0 zz7
 have d0 := at_dig h p zz7
 rw [Nat.add_zero p] at e0
 rw [← e0] at d0
 rw [num1 k _ (by rw [ByteArray.size_extract]; omega) d0, at_bt, ← e0]; rfl
theorem span_eq (k : Nat) (s : ByteArray) (h : Digs (bytesOf s)) (p : Nat) (hp : p = 6 → 6 ≤ s.size) : when_span.f (k + 5) s (p : Int) = some (span (bytesOf s) p) := by
 unfold when_span.f span
 by_cases h4 : p = 4
 ·
  rw [if_pos zz7, if_pos h4]
 rw [if_neg zz7, if_neg h4]
 by_cases h6 : p = 6
 ·
  have := hp h6
  rw [if_pos zz7, if_pos h6, if_pos zz7, if_pos zz7, year_eq k s h zz7]
  simp only [Option.bind_some]
  rw [if_pos zz7, if_pos zz7, pair_eq (k + 2) s h 4 6 rfl zz7]
  rfl
 rw [if_neg zz7, if_neg h6]
 by_cases h8 : p = 8
 ·
  rw [if_pos zz7, if_pos h8]
 ·
  rw [if_neg zz7, if_neg h8]
theorem mask_eq : ∀ n : Nat, n < 15 → 4 < n → Go.bits .andNot .i64 (wrap64 ((n : Int) - 1)) 1 = if n % 2 = 1 then ((n - 1 : Nat) : Int) else ((n - 2 : Nat) : Int) := by decide +kernel
theorem tens {x : Int} (h0 : 0 ≤ x) (h1 : x ≤ 1000) : wrap64 (Int.tdiv x 10) = x / 10 := by
 rw [Int.tdiv_eq_ediv_of_nonneg h0, w64 zz7 zz7]
theorem span_range (D : List Int) (p : Nat) : 0 ≤ (span D p).1 ∧ (span D p).1 ≤ 1 ∧ 0 ≤ (span D p).2 ∧ (span D p).2 ≤ 59 := by
 have := days_range (yr D) (Dt.two D 4)
 unfold span
 repeat' split
 all_goals (simp only; omega)
theorem and_dec (a b : Prop) [Decidable a] [Decidable b] : (if a then some (decide b) else some false) = some (decide a && decide b) := by
 by_cases h : a <;> simp [h]
theorem may_eq (k : Nat) (s : ByteArray) (h : Digs (bytesOf s)) (hs : s.size ≤ 14) : when_may.f (k + 5) s = some (may (bytesOf s)) := by
 unfold when_may.f may
 rw [bytesOf_length]
 by_cases h4 : s.size ≤ 4
 ·
  rw [if_pos zz7, if_pos h4]
 rw [if_neg zz7, if_neg h4, mask_eq s.size zz7 zz7]
 by_cases ho : s.size % 2 = 1
 ·
  have hr := span_range (bytesOf s) (s.size - 1)
  rw [if_pos ho, if_pos ho, span_eq k s h (s.size - 1) zz7]
  simp only [Option.bind_some]
  rw [if_pos zz7, if_pos zz7, if_pos zz7, Int.toNat_natCast, one_eq (k + 3) s h (s.size - 1) s.size zz7 zz7]
  simp only [Option.bind_some]
  rw [tens zz7 zz7, tens zz7 zz7, and_dec]
 ·
  have hr := span_range (bytesOf s) (s.size - 2)
  rw [if_neg ho, if_neg ho, span_eq k s h (s.size - 2) zz7]
  simp only [Option.bind_some]
  rw [if_neg zz7, if_pos zz7, if_pos zz7, Int.toNat_natCast, pair_eq (k + 2) s h (s.size - 2) s.size zz7 zz7]
  simp only [Option.bind_some]
  rw [and_dec]
theorem nine : bytesOf (⟨#[57]⟩ : ByteArray) = [57] := by decide
theorem pad_nine (D : List Int) (h : D.length < 4) : pad (D ++ [57]) = pad D := by
 unfold pad
 rw [List.append_assoc, List.length_append]
 congr 1
 rw [show 4 - D.length = (4 - (D.length + [(57 : Int)].length)) + 1 by simp; omega, List.replicate_succ]; rfl
theorem late_l0 : ∀ (d k : Nat) (s : ByteArray), s.size + d = 4 ∨ (d = 0 ∧ 4 ≤ s.size) → s.size ≤ 14 → Digs (bytesOf s) → when_late.l0 (k + d + 6) s = some (late (bytesOf s)) := by
 intro d
 induction d with
 | zero =>
   intro k s hd hs h
   rw [when_late.l0, if_neg zz7, if_pos zz7, if_pos zz7, year_eq k s h zz7]
   simp only [Option.bind_some]
   unfold late
   rw [pad_full _ zz70]
 | succ d ih =>
   intro k s hd hs h
   rw [show k + (d + 1) + 6 = (k + d + 6) + 1 by omega, when_late.l0, if_pos zz7, if_pos zz7, ih k _ (by rw [ByteArray.size_append]; left; show s.size + 1 + d = 4; omega) (by rw [ByteArray.size_append]; show s.size + 1 ≤ 14; omega) (by rw [bytesOf_append, nine]; exact h.append (fun x hx => by simp at hx; unfold Dig; omega))]
   unfold late
   rw [bytesOf_append, nine, pad_nine _ zz70]
theorem late_eq (k : Nat) (s : ByteArray) (hs : s.size ≤ 14) (h : Digs (bytesOf s)) : when_late.f (k + 10) s = some (late (bytesOf s)) := by
 unfold when_late.f
 by_cases h4 : s.size ≤ 4
 ·
  have := late_l0 (4 - s.size) (k + s.size) s zz7 hs h
  rwa [show k + s.size + (4 - s.size) + 6 = k + 10 by omega] at this
 ·
  exact late_l0 0 (k + 4) s zz7 hs h
def enc (u : Bool) : Option St → ByteArray × Int × Bool × Bool
 | some s => (strOfNums s.1, s.2, u, true)
 | none => ((⟨#[]⟩ : ByteArray), 0, false, false)
theorem digs_bytes {L : List Int} (h : Digs L) : Bytes L := fun b hb => by have := h b hb; unfold Dig at this; omega
theorem nums_append (a b : List Int) (ha : Bytes a) (hb : Bytes b) : strOfNums a ++ strOfNums b = strOfNums (a ++ b) := by
 refine bytesOf_inj ?_
 rw [bytesOf_append, bytesOf_nums _ ha, bytesOf_nums _ hb, bytesOf_nums _ (fun x hx => (List.mem_append.1 hx).elim (ha x) (hb x))]
theorem nums_size (L : List Int) (h : Bytes L) : (strOfNums L).size = L.length := by
 rw [← bytesOf_length, bytesOf_nums _ h]
theorem nums_empty (L : List Int) (h : Bytes L) : ((strOfNums L).toList == ([] : List UInt8)) = L.isEmpty := by
 have := toList_beq (strOfNums L) (⟨#[]⟩ : ByteArray)
 rw [show (⟨#[]⟩ : ByteArray).toList = ([] : List UInt8) from by decide +kernel, bytesOf_nums _ h, show bytesOf (⟨#[]⟩ : ByteArray) = [] from rfl] at this
 rw [this]; cases L <;> rfl
theorem cen_nums (b : Int) : strOfNums (cen b) = if b ≥ 53 then (⟨#[49, 57]⟩ : ByteArray) else (⟨#[50, 48]⟩ : ByteArray) := by
 unfold cen; split <;> decide +kernel
theorem push_j2 (k : Nat) (b : Int) (L : List Int) (n : Int) (u : Bool) (h : Digs L) (hb : Dig b) (hl : L.length ≤ 13) :
 when_State_Push.j2 (k + 12) b (strOfNums L) n u = some (enc u (if (may (L ++ [b]) && (u || late (L ++ [b]))) = true then some (L ++ [b], n) else none)) := by
 have h1 : Digs [b] := fun x hx => by simp at hx; rw [hx]; exact hb
 have h2 : Digs (L ++ [b]) := h.append h1
 have hsz : (strOfNums (L ++ [b])).size = L.length + 1 := by rw [nums_size _ (digs_bytes h2)]; simp
 rw [when_State_Push.j2]
 simp only [Option.bind_some]
 rw [if_pos (by rw [nums_size _ (digs_bytes h), nums_size _ (digs_bytes h1)]; simp; omega), nums_append _ _ (digs_bytes h) (digs_bytes h1),
  may_eq (k + 6) _ (by rw [bytesOf_nums _ (digs_bytes h2)]; exact h2) zz7, late_eq (k + 1) _ zz7 (by rw [bytesOf_nums _ (digs_bytes h2)]; exact h2), bytesOf_nums _ (digs_bytes h2)]
 simp only [Option.bind_some]
 cases may (L ++ [b]) <;> cases u <;> cases late (L ++ [b]) <;> rfl
theorem push_eq (k : Nat) (u : Bool) (L : List Int) (n b : Int) (h : Digs L) (hl : n - 1 ≠ 0 → L.length ≤ 13) (hn : -9223372036854775807 ≤ n ∧ n ≤ 9223372036854775807) :
 when_State_Push.f (k + 14) (strOfNums L) n u b = some (enc u (stp u (L, n) b)) := by
 unfold when_State_Push.f stp
 simp only
 rw [w64 (x := n - 1) zz7 zz7]
 by_cases h0 : n - 1 = 0
 ·
  rw [if_pos h0, if_pos h0]
  split <;> rfl
 rw [if_neg h0, if_neg h0]
 by_cases h1 : b < 48
 ·
  rw [if_pos h1, if_pos (.inl h1), when_State_Push.j0, if_pos rfl]; rfl
 rw [if_neg h1]
 by_cases h2 : b > 57
 ·
  rw [if_pos (.inr h2), show decide (b > 57) = true by simpa using h2, when_State_Push.j0, if_pos rfl]; rfl
 rw [if_neg zz7, show decide (b > 57) = false by simpa using h2, when_State_Push.j0, if_neg zz13, nums_empty _ (digs_bytes h)]
 have hb : Dig b := by unfold Dig; omega
 have hj1 : ∀ x : Bool, when_State_Push.j1 (k + 13) b x (strOfNums L) (n - 1) u = when_State_Push.j2 (k + 12) b (strOfNums (if x = true then cen b else L)) (n - 1) u := by
  intro x
  rw [when_State_Push.j1]
  cases x with
  | false => rw [if_neg zz13, if_neg zz13]
  | true =>
    rw [if_pos rfl, if_pos rfl, cen_nums]
    split <;> rfl
 have hj : (if u = true then when_State_Push.j1 (k + 13) b L.isEmpty (strOfNums L) (n - 1) u else when_State_Push.j1 (k + 13) b false (strOfNums L) (n - 1) u) = when_State_Push.j2 (k + 12) b (strOfNums (if (u && L.isEmpty) = true then cen b else L)) (n - 1) u := by
  cases u with
  | false => rw [if_neg zz13, hj1]; rfl
  | true => rw [if_pos rfl, hj1]; rfl
 rw [hj]
 refine push_j2 k b _ (n - 1) u ?_ hb ?_
 ·
  split
  ·
   exact cen_digs b
  ·
   exact h
 ·
  split
  ·
   rw [cen_len]; omega
  ·
   exact hl h0
def lenOf (u : Bool) : Int := if u = true then 13 else 15
structure Runs (u : Bool) (s : ByteArray) (ok : Bool) (i : Nat) (D : ByteArray) (n : Int) (u' : Bool) : Prop where
 ok_ : ok = (run u ([], lenOf u) ((bytesOf s).take i)).isSome
 st_ : ok = true → u' = u ∧ ∃ L, D = strOfNums L ∧ run u ([], lenOf u) ((bytesOf s).take i) = some (L, n)
theorem Runs.start (u : Bool) (s : ByteArray) : Runs u s true 0 (⟨#[]⟩ : ByteArray) (lenOf u) u := ⟨rfl, fun _ => ⟨rfl, [], rfl, rfl⟩⟩
theorem take_snoc (s : ByteArray) (i : Nat) (h : i < s.size) : (bytesOf s).take (i + 1) = (bytesOf s).take i ++ [bt s (i : Int)] := by
 have hl : i < (bytesOf s).length := by rw [bytesOf_length]; exact h
 rw [List.take_succ_eq_append_getElem hl, bt_get, Int.toNat_natCast, List.getD_eq_getElem?_getD, List.getElem?_eq_getElem hl]; rfl
theorem run_state {u : Bool} {p L : List Int} {n : Int} (hp : (p.length : Int) < lenOf u) (h : run u ([], lenOf u) p = some (L, n)) : okp u p ∧ L = F u p ∧ n = lenOf u - p.length := by
 obtain ⟨h1, h2⟩ := run_okp u (lenOf u) p hp
 by_cases ho : okp u p
 ·
  have := (h1 ho).symm.trans h
  simp only [Option.some.injEq, Prod.mk.injEq] at this
  exact ⟨ho, this.1.symm, this.2.symm⟩
 ·
  rw [h2 ho] at h; cases h
theorem F_len_le (u : Bool) (p : List Int) : (F u p).length ≤ p.length + (if u = true then 2 else 0) := by
 rw [F_len]; cases u <;> simp; split <;> omega
theorem Runs.push {u : Bool} {s : ByteArray} {i : Nat} {D : ByteArray} {n : Int} {u' : Bool} (h : Runs u s true i D n u') (hi : i < s.size) (hN : (i : Int) < lenOf u) (k : Nat) :
 ∃ ok' D' n' u'', when_State_Push.f (k + 14) D n u' (bt s (i : Int)) = some (D', n', u'', ok') ∧ Runs u s ok' (i + 1) D' n' u'' := by
 obtain ⟨rfl, L, rfl, hr⟩ := h.st_ rfl
 have hlen : ((bytesOf s).take i).length = i := by rw [List.length_take, bytesOf_length]; omega
 obtain ⟨ho, hL, hn⟩ := run_state (by rw [hlen]; exact hN) hr
 rw [hlen] at hn
 have hd : Digs L := by rw [hL]; exact F_digs ho.1
 have hFl := F_len_le u' ((bytesOf s).take i)
 rw [hlen, ← hL] at hFl
 have hN' : lenOf u' + (if u' = true then 2 else 0) = 15 := by cases u' <;> rfl
 have hp := push_eq k u' L n (bt s (i : Int)) hd (by intro hne; cases u' <;> simp [lenOf] at * <;> omega) (by cases u' <;> simp [lenOf] at * <;> omega)
 have hrun : run u' ([], lenOf u') ((bytesOf s).take (i + 1)) = stp u' (L, n) (bt s (i : Int)) := by
  rw [take_snoc s i hi, run_snoc, hr]; rfl
 cases hs : stp u' (L, n) (bt s (i : Int)) with
 | none =>
   rw [hs] at hp hrun
   exact ⟨false, _, _, _, hp, ⟨by rw [hrun]; rfl, fun h => by cases h⟩⟩
 | some s' =>
   rw [hs] at hp hrun
   exact ⟨true, _, _, _, hp, ⟨by rw [hrun]; rfl, fun _ => ⟨rfl, s'.1, rfl, hrun⟩⟩⟩
end Go.Proofs.Ytgddaddoabjgiaa.BDat
namespace Go.Proofs.Ytgddaddoabjgiaa.PB
open RowKit YtgddaddoabjgiaaW.PrintWords YtgddaddoabjgiaaW.PrintLast YtgddaddoabjgiaaW.PrintMore
attribute [local go_sem] max2_int min2_int max_two min_two max_three min_three max_four min_four
set_option linter.unusedVariables false
set_option linter.unusedSimpArgs false
def when_Put.l0 : Nat → ByteArray → List Int → Int → Int → Option (Int × ByteArray × Bool)
 | 0, _, _, _, _ => none
 | k + 1, x0, x13, x14, x15 => if x15 < x14 then (if 0 ≤ x15 then (if x15 < (x13.length : Int) then (if x0.size + 1 ≤ 9223372036854775807 then (if (rd x13 x15) = 23 then (if 2 ≤ ((x0 ++ (⟨#[90]⟩ : ByteArray)).size : Int) then ((when_Get.f k (rd x13 x15) ((x0 ++ (⟨#[90]⟩ : ByteArray)).extract 2 (x0.size + 1))).bind fun bt193 => (if bt193.2 = true then (if bt193.1.toList = x0.toList then (some (rd x13 x15, (x0 ++ (⟨#[90]⟩ : ByteArray)).extract 2 (x0.size + 1), true)) else (when_Put.l0 k x0 x13 x14 (wrap64 (x15 + 1)))) else (when_Put.l0 k x0 x13 x14 (wrap64 (x15 + 1))))) else (none)) else ((when_Get.f k (rd x13 x15) (x0 ++ (⟨#[90]⟩ : ByteArray))).bind fun bt195 => (if bt195.2 = true then (if bt195.1.toList = x0.toList then (some (rd x13 x15, x0 ++ (⟨#[90]⟩ : ByteArray), true)) else (when_Put.l0 k x0 x13 x14 (wrap64 (x15 + 1)))) else (when_Put.l0 k x0 x13 x14 (wrap64 (x15 + 1)))))) else (none)) else (none)) else (none)) else (some (0, (⟨#[]⟩ : ByteArray), false))
def when_Put.f (k : Nat) (a0 : ByteArray) : Option (Int × ByteArray × Bool) := if (a0.size : Int) = 14 then ((some (([23, 24] : List Int) : List Int)).bind fun y189 => (when_Put.l0 k a0 y189 (y189.length : Int) 0)) else (some (0, (⟨#[]⟩ : ByteArray), false))
set_option maxHeartbeats 8000000 in
set_option maxRecDepth 100000 in
theorem when_Put.calls (k : Nat) (a0 : ByteArray) (r1 : Int) (r2 : ByteArray) (r3 : Bool) (w : World) (h : when_Put.f k a0 = some (r1, r2, r3)) :
 Calls Try.prog 48 #[.string a0] w fun e w' => e = .returned (.tuple #[.int .i64 r1, .string r2, .bool r3]) ∧ Below w.heap.size w w' := by
 have HB := Aside0.mk (Below.refl w.heap.size w)
 have H : (if (a0.size : Int) = 14 then ((some (([23, 24] : List Int) : List Int)).bind fun y189 => (when_Put.l0 k a0 y189 (y189.length : Int) 0)) else (some (0, (⟨#[]⟩ : ByteArray), false))) = some (r1, r2, r3) := h
 clear h
 by_cases c2 : (a0.size : Int) = 14
 ·
  rw [if_pos c2] at H
  have c2b0 : ((a0.size : Int) == 14) = true := beq_iff_eq.mpr c2
  have c2b1 : ((a0.size : Int) != 14) = false := bne_eq_false_iff_eq.mpr c2
  clear c2
  obtain ⟨y189, hy189⟩ : ∃ y_ : List Int, y_ = (([23, 24] : List Int)) := ⟨_, rfl⟩
  replace H : (when_Put.l0 k a0 y189 (y189.length : Int) 0) = some (r1, r2, r3) := by first | (rw [hy189]; with_reducible exact H) | (have H2_ := (Option.bind_some _ _).symm.trans H; rw [hy189]; with_reducible exact H2_) | (have H2_ := (Option.bind_some _ _).symm.trans H; with_reducible exact H2_) | with_reducible exact H | (rw [hy189]; exact H) | exact H
  have Ny189 := Aside0.mk hy189
  clear hy189
  have H' := Aside0.mk H
  clear H
  go_enter Try.func48, Try.ntmps48
  go_wp2_with (first | ((with_reducible refine gate_dst (N := 13) rfl ?_); refine Kd.R_lit (Kd.int .i64) _ 3 ?hg (N := 13) ?hd (xs := ([23, 24] : List Int)) (inner := [.int .i64 23, .int .i64 24]) (ok := fun _ => True) (okp := fun _ => True) ?hr ?hp (fun _ hk => hk) trivial (Below.refl _ _) (Nat.le_refl _) zz43 ?_; (case hd => rfl); (case hg => rfl); (case hr => first | (go_simp; done) | (go_simp; rfl)); (case hp => exact (Reps.one (show Kd.M (Kd.int .i64) _ _ _ 23 [.int .i64 23] from rfl) (Reps.one (show Kd.M (Kd.int .i64) _ _ _ 24 [.int .i64 24] from rfl) (Reps.none _ _)))); intro v190 w3 ho4 hb hg_ hnew_; clear hg_ hnew_; (first | rw [← Ny189.out] at ho4 | (simp only [Int.reduceToNat] at ho4; rw [← Ny189.out] at ho4)); have n0_ := Aside0.mk (Kd.R_lower ho4 (below_size zz1)); have n1_ := Aside0.mk (below_step zz1 hb); clear HB; have HO191 := n0_; have HB := n1_; clear n0_ n1_; clear hb ho4; obtain ⟨Ao5, co5, eo5⟩ := Kd.R_slice HO191.out; subst eo5))
  go_loopg [15] k (fun kq v15 w' => ∃ (x15_1 : Int), v15 = .int .i64 x15_1 ∧ Aside0 (when_Put.l0 kq a0 y189 (y189.length : Int) x15_1 = some (r1, r2, r3)) ∧ Aside0 (kq ≤ k) ∧ Aside0 (Kd.R (Kd.int .i64) 3 w' w.heap.size (fun _ => True) (.slice Ao5 y189.length co5) y189) ∧ Aside0 (Below w.heap.size w w'))
  case atStart => exact ⟨(0), zz0, H', ⟨Nat.le_refl _⟩, ⟨by (with_reducible repeat (first | apply Kd.R_alloc | apply Kd.R_drewN | apply Kd.R_drew)); exact HO191.out⟩, ⟨zz1⟩⟩
  case round =>
   clear H'
   try clear c2
   try clear c2b0
   try clear c2b1
   try clear p2
   try clear c4
   obtain ⟨x15_1, rfl, HA, HK1, HO_13, HB⟩ := hrel
   cases gk with
   | zero => exact absurd HA.out (by simp [when_Put.l0])
   | succ k1 =>
     have H := HA.out
     clear HA
     simp only [when_Put.l0] at H
     by_cases c6 : x15_1 < (y189.length : Int)
     ·
      rw [if_pos c6] at H
      have c6b0 : decide (x15_1 < (y189.length : Int)) = true := decide_eq_true c6
      clear c6
      by_cases c7 : 0 ≤ x15_1
      ·
       rw [if_pos c7] at H
       have c7b0 : decide (0 ≤ x15_1) = true := decide_eq_true c7
       clear c7
       by_cases c8 : x15_1 < (y189.length : Int)
       ·
        rw [if_pos c8] at H
        have c8b0 : decide (x15_1 < (y189.length : Int)) = true := decide_eq_true c8
        clear c8
        by_cases c9 : a0.size + 1 ≤ 9223372036854775807
        ·
         rw [if_pos c9] at H
         have c9b0 := eq_true c9
         have c9b1 : decide (a0.size + 1 ≤ 9223372036854775807) = true := decide_eq_true c9
         try have c9b2 : (9223372036854775807 < a0.size + 1) = False := eq_false (Nat.not_lt.2 c9)
         by_cases c10 : (rd y189 x15_1) = 23
         ·
          rw [if_pos c10] at H
          have c10b0 : ((rd y189 x15_1) == 23) = true := beq_iff_eq.mpr c10
          have c10b1 : ((rd y189 x15_1) != 23) = false := bne_eq_false_iff_eq.mpr c10
          clear c10
          by_cases c11 : 2 ≤ ((a0 ++ (⟨#[90]⟩ : ByteArray)).size : Int)
          ·
           rw [if_pos c11] at H
           have c11b0 := eq_true c11
           have c11b1 : decide (2 ≤ ((a0 ++ (⟨#[90]⟩ : ByteArray)).size : Int)) = true := decide_eq_true c11
           replace H := Option.bind_eq_some_iff.mp H
           obtain ⟨⟨t193, t194⟩, A120, H⟩ := H
           replace H : (if t194 = true then (if t193.toList = a0.toList then (some (rd y189 x15_1, (a0 ++ (⟨#[90]⟩ : ByteArray)).extract 2 (a0.size + 1), true)) else (when_Put.l0 k1 a0 y189 (y189.length : Int) (wrap64 (x15_1 + 1)))) else (when_Put.l0 k1 a0 y189 (y189.length : Int) (wrap64 (x15_1 + 1)))) = some (r1, r2, r3) := H
           have A12 := Aside0.mk A120
           clear A120
           by_cases c13 : t194 = true
           ·
            subst c13
            have H1 : (if t193.toList = a0.toList then (some (rd y189 x15_1, (a0 ++ (⟨#[90]⟩ : ByteArray)).extract 2 (a0.size + 1), true)) else (when_Put.l0 k1 a0 y189 (y189.length : Int) (wrap64 (x15_1 + 1)))) = some (r1, r2, r3) := by rw [if_pos rfl] at H; exact H
            clear H
            have H := H1
            clear H1
            by_cases c14 : t193.toList = a0.toList
            ·
             rw [if_pos c14] at H
             have c14b0 : (t193.toList == a0.toList) = true := beq_iff_eq.mpr c14
             have c14b1 : (t193.toList != a0.toList) = false := bne_eq_false_iff_eq.mpr c14
             clear c14
             simp only [Option.some.injEq, Prod.mk.injEq] at H
             obtain ⟨rfl, rfl, rfl⟩ := H
             have p192 : 0 ≤ (x15_1 : Int) := of_decide_eq_true zz6
             have q192 : x15_1 < (y189.length : Int) := of_decide_eq_true zz6
             obtain ⟨ad192, e192, hx192_0⟩ := Kd.at_int (Kd.R_reads' HO_13.out).2.2 x15_1 p192 q192
             cases e192
             replace p192 := eq_true p192
             replace q192 := eq_true q192
             go_wp2_with (first | ((with_reducible refine gate_callee (f := 72) rfl ?_); refine goesL_ (some 28) rfl rfl Try.func72 zz4 rfl #[.int .i64 (rd y189 x15_1), .string ((a0 ++ (⟨#[90]⟩ : ByteArray)).extract 2 (a0.size + 1))] rfl zz5 ?_; (with_reducible refine (when_Get.calls k1 (rd y189 x15_1) ((a0 ++ (⟨#[90]⟩ : ByteArray)).extract 2 (a0.size + 1)) t193 true _ A12.out).mono ?_); rintro e w15 ⟨rfl, hb⟩; refine ⟨_, rfl, ?_⟩; have n0_ := Aside0.mk (Kd.R_below zz45 hb); have n1_ := Aside0.mk (below_step zz1 hb); clear HO_13; clear HB; have HO_13 := n0_; have HB := n1_; clear n0_ n1_; (try clear hb); (try clear hb2); (try clear hk); (try clear hi)))
             go_ret3
             exact ⟨zz3, zz1⟩
            ·
             rw [if_neg c14] at H
             have c14b0 : (t193.toList == a0.toList) = false := beq_eq_false_iff_ne.mpr c14
             have c14b1 : (t193.toList != a0.toList) = true := bne_iff_ne.mpr c14
             have H' := Aside0.mk H
             clear H
             have p192 : 0 ≤ (x15_1 : Int) := of_decide_eq_true zz6
             have q192 : x15_1 < (y189.length : Int) := of_decide_eq_true zz6
             obtain ⟨ad192, e192, hx192_0⟩ := Kd.at_int (Kd.R_reads' HO_13.out).2.2 x15_1 p192 q192
             cases e192
             replace p192 := eq_true p192
             replace q192 := eq_true q192
             go_wp2_with (first | ((with_reducible refine gate_callee (f := 72) rfl ?_); refine goesL_ (some 28) rfl rfl Try.func72 zz4 rfl #[.int .i64 (rd y189 x15_1), .string ((a0 ++ (⟨#[90]⟩ : ByteArray)).extract 2 (a0.size + 1))] rfl zz5 ?_; (with_reducible refine (when_Get.calls k1 (rd y189 x15_1) ((a0 ++ (⟨#[90]⟩ : ByteArray)).extract 2 (a0.size + 1)) t193 true _ A12.out).mono ?_); rintro e w16 ⟨rfl, hb⟩; refine ⟨_, rfl, ?_⟩; have n0_ := Aside0.mk (Kd.R_below zz45 hb); have n1_ := Aside0.mk (below_step zz1 hb); clear HO_13; clear HB; have HO_13 := n0_; have HB := n1_; clear n0_ n1_; (try clear hb); (try clear hb2); (try clear hk); (try clear hi)))
             go_roundg k1
             case measure => have := HK1.out; omega
             case rel => exact ⟨(wrap64 (x15_1 + 1)), zz0, H', ⟨zz68⟩, ⟨zz45⟩, ⟨zz1⟩⟩
           ·
            replace c13 := Bool.eq_false_iff.mpr c13
            subst c13
            have H1 : (when_Put.l0 k1 a0 y189 (y189.length : Int) (wrap64 (x15_1 + 1))) = some (r1, r2, r3) := by rw [if_neg (show ¬ (false = true) by decide)] at H; exact H
            clear H
            have H := H1
            clear H1
            have H' := Aside0.mk H
            clear H
            have p192 : 0 ≤ (x15_1 : Int) := of_decide_eq_true zz6
            have q192 : x15_1 < (y189.length : Int) := of_decide_eq_true zz6
            obtain ⟨ad192, e192, hx192_0⟩ := Kd.at_int (Kd.R_reads' HO_13.out).2.2 x15_1 p192 q192
            cases e192
            replace p192 := eq_true p192
            replace q192 := eq_true q192
            go_wp2_with (first | ((with_reducible refine gate_callee (f := 72) rfl ?_); refine goesL_ (some 28) rfl rfl Try.func72 zz4 rfl #[.int .i64 (rd y189 x15_1), .string ((a0 ++ (⟨#[90]⟩ : ByteArray)).extract 2 (a0.size + 1))] rfl zz5 ?_; (with_reducible refine (when_Get.calls k1 (rd y189 x15_1) ((a0 ++ (⟨#[90]⟩ : ByteArray)).extract 2 (a0.size + 1)) t193 false _ A12.out).mono ?_); rintro e w17 ⟨rfl, hb⟩; refine ⟨_, rfl, ?_⟩; have n0_ := Aside0.mk (Kd.R_below zz45 hb); have n1_ := Aside0.mk (below_step zz1 hb); clear HO_13; clear HB; have HO_13 := n0_; have HB := n1_; clear n0_ n1_; (try clear hb); (try clear hb2); (try clear hk); (try clear hi)))
            go_roundg k1
            case measure => have := HK1.out; omega
            case rel => exact ⟨(wrap64 (x15_1 + 1)), zz0, H', ⟨zz68⟩, ⟨zz45⟩, ⟨zz1⟩⟩
          ·
           rw [if_neg c11] at H
           exact absurd H zz43
         ·
          rw [if_neg c10] at H
          have c10b0 : ((rd y189 x15_1) == 23) = false := beq_eq_false_iff_ne.mpr c10
          have c10b1 : ((rd y189 x15_1) != 23) = true := bne_iff_ne.mpr c10
          replace H := Option.bind_eq_some_iff.mp H
          obtain ⟨⟨t195, t196⟩, A180, H⟩ := H
          replace H : (if t196 = true then (if t195.toList = a0.toList then (some (rd y189 x15_1, a0 ++ (⟨#[90]⟩ : ByteArray), true)) else (when_Put.l0 k1 a0 y189 (y189.length : Int) (wrap64 (x15_1 + 1)))) else (when_Put.l0 k1 a0 y189 (y189.length : Int) (wrap64 (x15_1 + 1)))) = some (r1, r2, r3) := H
          have A18 := Aside0.mk A180
          clear A180
          by_cases c19 : t196 = true
          ·
           subst c19
           have H1 : (if t195.toList = a0.toList then (some (rd y189 x15_1, a0 ++ (⟨#[90]⟩ : ByteArray), true)) else (when_Put.l0 k1 a0 y189 (y189.length : Int) (wrap64 (x15_1 + 1)))) = some (r1, r2, r3) := by rw [if_pos rfl] at H; exact H
           clear H
           have H := H1
           clear H1
           by_cases c20 : t195.toList = a0.toList
           ·
            rw [if_pos c20] at H
            have c20b0 : (t195.toList == a0.toList) = true := beq_iff_eq.mpr c20
            have c20b1 : (t195.toList != a0.toList) = false := bne_eq_false_iff_eq.mpr c20
            clear c20
            simp only [Option.some.injEq, Prod.mk.injEq] at H
            obtain ⟨rfl, rfl, rfl⟩ := H
            have p192 : 0 ≤ (x15_1 : Int) := of_decide_eq_true zz6
            have q192 : x15_1 < (y189.length : Int) := of_decide_eq_true zz6
            obtain ⟨ad192, e192, hx192_0⟩ := Kd.at_int (Kd.R_reads' HO_13.out).2.2 x15_1 p192 q192
            cases e192
            replace p192 := eq_true p192
            replace q192 := eq_true q192
            go_wp2_with (first | ((with_reducible refine gate_callee (f := 72) rfl ?_); refine goesL_ (some 28) rfl rfl Try.func72 zz4 rfl #[.int .i64 (rd y189 x15_1), .string (a0 ++ (⟨#[90]⟩ : ByteArray))] rfl zz5 ?_; (with_reducible refine (when_Get.calls k1 (rd y189 x15_1) (a0 ++ (⟨#[90]⟩ : ByteArray)) t195 true _ A18.out).mono ?_); rintro e w21 ⟨rfl, hb⟩; refine ⟨_, rfl, ?_⟩; have n0_ := Aside0.mk (Kd.R_below zz45 hb); have n1_ := Aside0.mk (below_step zz1 hb); clear HO_13; clear HB; have HO_13 := n0_; have HB := n1_; clear n0_ n1_; (try clear hb); (try clear hb2); (try clear hk); (try clear hi)))
            go_ret3
            exact ⟨zz3, zz1⟩
           ·
            rw [if_neg c20] at H
            have c20b0 : (t195.toList == a0.toList) = false := beq_eq_false_iff_ne.mpr c20
            have c20b1 : (t195.toList != a0.toList) = true := bne_iff_ne.mpr c20
            have H' := Aside0.mk H
            clear H
            have p192 : 0 ≤ (x15_1 : Int) := of_decide_eq_true zz6
            have q192 : x15_1 < (y189.length : Int) := of_decide_eq_true zz6
            obtain ⟨ad192, e192, hx192_0⟩ := Kd.at_int (Kd.R_reads' HO_13.out).2.2 x15_1 p192 q192
            cases e192
            replace p192 := eq_true p192
            replace q192 := eq_true q192
            go_wp2_with (first | ((with_reducible refine gate_callee (f := 72) rfl ?_); refine goesL_ (some 28) rfl rfl Try.func72 zz4 rfl #[.int .i64 (rd y189 x15_1), .string (a0 ++ (⟨#[90]⟩ : ByteArray))] rfl zz5 ?_; (with_reducible refine (when_Get.calls k1 (rd y189 x15_1) (a0 ++ (⟨#[90]⟩ : ByteArray)) t195 true _ A18.out).mono ?_); rintro e w22 ⟨rfl, hb⟩; refine ⟨_, rfl, ?_⟩; have n0_ := Aside0.mk (Kd.R_below zz45 hb); have n1_ := Aside0.mk (below_step zz1 hb); clear HO_13; clear HB; have HO_13 := n0_; have HB := n1_; clear n0_ n1_; (try clear hb); (try clear hb2); (try clear hk); (try clear hi)))
            go_roundg k1
            case measure => have := HK1.out; omega
            case rel => exact ⟨(wrap64 (x15_1 + 1)), zz0, H', ⟨zz68⟩, ⟨zz45⟩, ⟨zz1⟩⟩
          ·
           replace c19 := Bool.eq_false_iff.mpr c19
           subst c19
           have H1 : (when_Put.l0 k1 a0 y189 (y189.length : Int) (wrap64 (x15_1 + 1))) = some (r1, r2, r3) := by rw [if_neg (show ¬ (false = true) by decide)] at H; exact H
           clear H
           have H := H1
           clear H1
           have H' := Aside0.mk H
           clear H
           have p192 : 0 ≤ (x15_1 : Int) := of_decide_eq_true zz6
           have q192 : x15_1 < (y189.length : Int) := of_decide_eq_true zz6
           obtain ⟨ad192, e192, hx192_0⟩ := Kd.at_int (Kd.R_reads' HO_13.out).2.2 x15_1 p192 q192
           cases e192
           replace p192 := eq_true p192
           replace q192 := eq_true q192
           go_wp2_with (first | ((with_reducible refine gate_callee (f := 72) rfl ?_); refine goesL_ (some 28) rfl rfl Try.func72 zz4 rfl #[.int .i64 (rd y189 x15_1), .string (a0 ++ (⟨#[90]⟩ : ByteArray))] rfl zz5 ?_; (with_reducible refine (when_Get.calls k1 (rd y189 x15_1) (a0 ++ (⟨#[90]⟩ : ByteArray)) t195 false _ A18.out).mono ?_); rintro e w23 ⟨rfl, hb⟩; refine ⟨_, rfl, ?_⟩; have n0_ := Aside0.mk (Kd.R_below zz45 hb); have n1_ := Aside0.mk (below_step zz1 hb); clear HO_13; clear HB; have HO_13 := n0_; have HB := n1_; clear n0_ n1_; (try clear hb); (try clear hb2); (try clear hk); (try clear hi)))
           go_roundg k1
           case measure => have := HK1.out; omega
           case rel => exact ⟨(wrap64 (x15_1 + 1)), zz0, H', ⟨zz68⟩, ⟨zz45⟩, ⟨zz1⟩⟩
        ·
         rw [if_neg c9] at H
         exact absurd H zz43
       ·
        rw [if_neg c8] at H
        exact absurd H zz43
      ·
       rw [if_neg c7] at H
       exact absurd H zz43
     ·
      rw [if_neg c6] at H
      have c6b0 : decide (x15_1 < (y189.length : Int)) = false := decide_eq_false c6
      clear c6
      simp only [Option.some.injEq, Prod.mk.injEq] at H
      obtain ⟨rfl, rfl, rfl⟩ := H
      go_wp2
      go_ret3
      exact ⟨zz3, zz1⟩
 ·
  rw [if_neg c2] at H
  have c2b0 : ((a0.size : Int) == 14) = false := beq_eq_false_iff_ne.mpr c2
  have c2b1 : ((a0.size : Int) != 14) = true := bne_iff_ne.mpr c2
  simp only [Option.some.injEq, Prod.mk.injEq] at H
  obtain ⟨rfl, rfl, rfl⟩ := H
  go_enter Try.func48, Try.ntmps48
  go_wp2
  go_ret3
  exact ⟨zz3, zz1⟩
def gantletref13_two.f (a0 : ByteArray) (a1 : Int) : Option (Int) := if 0 ≤ a1 then (if a1 < (a0.size : Int) then (if 0 ≤ (wrap64 (a1 + 1)) then (if (wrap64 (a1 + 1)) < (a0.size : Int) then (if (wrap64 ((wrap64 (bt a0 a1)) - 48)) < 0 then (some (-1)) else (if (wrap64 ((wrap64 (bt a0 a1)) - 48)) > 9 then (some (-1)) else (if (wrap64 ((wrap64 (bt a0 (wrap64 (a1 + 1)))) - 48)) < 0 then (some (-1)) else (if (wrap64 ((wrap64 (bt a0 (wrap64 (a1 + 1)))) - 48)) > 9 then (some (-1)) else (some (wrap64 ((wrap64 (10 * (wrap64 ((wrap64 (bt a0 a1)) - 48)))) + (wrap64 ((wrap64 (bt a0 (wrap64 (a1 + 1)))) - 48))))))))) else (none)) else (none)) else (none)) else (none)
set_option maxHeartbeats 8000000 in
set_option maxRecDepth 100000 in
theorem gantletref13_two.calls (a0 : ByteArray) (a1 : Int) (r : Int) (w : World) (h : gantletref13_two.f a0 a1 = some r) :
 Calls Try.prog 74 #[.string a0, .int .i64 a1] w fun e w' => e = .returned (.int .i64 r) ∧ Drawn0 w w' := by
 have H : (if 0 ≤ a1 then (if a1 < (a0.size : Int) then (if 0 ≤ (wrap64 (a1 + 1)) then (if (wrap64 (a1 + 1)) < (a0.size : Int) then (if (wrap64 ((wrap64 (bt a0 a1)) - 48)) < 0 then (some (-1)) else (if (wrap64 ((wrap64 (bt a0 a1)) - 48)) > 9 then (some (-1)) else (if (wrap64 ((wrap64 (bt a0 (wrap64 (a1 + 1)))) - 48)) < 0 then (some (-1)) else (if (wrap64 ((wrap64 (bt a0 (wrap64 (a1 + 1)))) - 48)) > 9 then (some (-1)) else (some (wrap64 ((wrap64 (10 * (wrap64 ((wrap64 (bt a0 a1)) - 48)))) + (wrap64 ((wrap64 (bt a0 (wrap64 (a1 + 1)))) - 48))))))))) else (none)) else (none)) else (none)) else (none)) = some r := h
 clear h
 by_cases c3 : 0 ≤ a1
 ·
  rw [if_pos c3] at H
  have c3b0 : decide (0 ≤ a1) = true := decide_eq_true c3
  clear c3
  by_cases c4 : a1 < (a0.size : Int)
  ·
   rw [if_pos c4] at H
   have c4b0 : decide (a1 < (a0.size : Int)) = true := decide_eq_true c4
   clear c4
   obtain ⟨ji6, hji6⟩ : ∃ j_ : Int, (wrap64 (a1 + 1)) = j_ := ⟨_, rfl⟩
   replace H : (if 0 ≤ (ji6) then (if (ji6) < (a0.size : Int) then (if (wrap64 ((wrap64 (bt a0 a1)) - 48)) < 0 then (some (-1)) else (if (wrap64 ((wrap64 (bt a0 a1)) - 48)) > 9 then (some (-1)) else (if (wrap64 ((wrap64 (bt a0 (ji6))) - 48)) < 0 then (some (-1)) else (if (wrap64 ((wrap64 (bt a0 (ji6))) - 48)) > 9 then (some (-1)) else (some (wrap64 ((wrap64 (10 * (wrap64 ((wrap64 (bt a0 a1)) - 48)))) + (wrap64 ((wrap64 (bt a0 (ji6))) - 48))))))))) else (none)) else (none)) = some r := by first | (rw [hji6] at H; exact H) | (simp only [hji6] at H ⊢; exact H)
   have hji6w : (IntKind.i64.wrap (a1 + 1)) = ji6 := (i64_w _).trans hji6
   by_cases c7 : 0 ≤ (ji6)
   ·
    rw [if_pos c7] at H
    have c7b0 : decide (0 ≤ (ji6)) = true := decide_eq_true c7
    clear c7
    by_cases c8 : (ji6) < (a0.size : Int)
    ·
     rw [if_pos c8] at H
     have c8b0 : decide ((ji6) < (a0.size : Int)) = true := decide_eq_true c8
     clear c8
     by_cases c10 : (wrap64 ((wrap64 (bt a0 a1)) - 48)) < 0
     ·
      rw [if_pos c10] at H
      have c10b0 : decide ((wrap64 ((wrap64 (bt a0 a1)) - 48)) < 0) = true := decide_eq_true c10
      clear c10
      obtain rfl := Option.some.inj H
      have p5 : 0 ≤ (a1 : Int) := of_decide_eq_true zz6
      have q5 : a1 < (a0.size : Int) := of_decide_eq_true zz6
      have hx5 := bt_at a0 a1
      replace p5 := eq_true p5
      replace q5 := eq_true q5
      have p9 : 0 ≤ ((ji6) : Int) := of_decide_eq_true zz6
      have q9 : (ji6) < (a0.size : Int) := of_decide_eq_true zz6
      have hx9 := bt_at a0 (ji6)
      replace p9 := eq_true p9
      replace q9 := eq_true q9
      go_enter Try.func74, Try.ntmps74
      go_wp2
      go_ret
      exact ⟨zz64, zz2⟩
     ·
      rw [if_neg c10] at H
      have c10b0 : decide ((wrap64 ((wrap64 (bt a0 a1)) - 48)) < 0) = false := decide_eq_false c10
      clear c10
      by_cases c11 : (wrap64 ((wrap64 (bt a0 a1)) - 48)) > 9
      ·
       rw [if_pos c11] at H
       have c11b0 : decide (9 < (wrap64 ((wrap64 (bt a0 a1)) - 48))) = true := decide_eq_true c11
       clear c11
       obtain rfl := Option.some.inj H
       have p5 : 0 ≤ (a1 : Int) := of_decide_eq_true zz6
       have q5 : a1 < (a0.size : Int) := of_decide_eq_true zz6
       have hx5 := bt_at a0 a1
       replace p5 := eq_true p5
       replace q5 := eq_true q5
       have p9 : 0 ≤ ((ji6) : Int) := of_decide_eq_true zz6
       have q9 : (ji6) < (a0.size : Int) := of_decide_eq_true zz6
       have hx9 := bt_at a0 (ji6)
       replace p9 := eq_true p9
       replace q9 := eq_true q9
       go_enter Try.func74, Try.ntmps74
       go_wp2
       go_ret
       exact ⟨zz64, zz2⟩
      ·
       rw [if_neg c11] at H
       have c11b0 : decide (9 < (wrap64 ((wrap64 (bt a0 a1)) - 48))) = false := decide_eq_false c11
       clear c11
       by_cases c12 : (wrap64 ((wrap64 (bt a0 (ji6))) - 48)) < 0
       ·
        rw [if_pos c12] at H
        have c12b0 : decide ((wrap64 ((wrap64 (bt a0 (ji6))) - 48)) < 0) = true := decide_eq_true c12
        clear c12
        obtain rfl := Option.some.inj H
        have p5 : 0 ≤ (a1 : Int) := of_decide_eq_true zz6
        have q5 : a1 < (a0.size : Int) := of_decide_eq_true zz6
        have hx5 := bt_at a0 a1
        replace p5 := eq_true p5
        replace q5 := eq_true q5
        have p9 : 0 ≤ ((ji6) : Int) := of_decide_eq_true zz6
        have q9 : (ji6) < (a0.size : Int) := of_decide_eq_true zz6
        have hx9 := bt_at a0 (ji6)
        replace p9 := eq_true p9
        replace q9 := eq_true q9
        go_enter Try.func74, Try.ntmps74
        go_wp2
        go_ret
        exact ⟨zz64, zz2⟩
       ·
        rw [if_neg c12] at H
        have c12b0 : decide ((wrap64 ((wrap64 (bt a0 (ji6))) - 48)) < 0) = false := decide_eq_false c12
        clear c12
        by_cases c13 : (wrap64 ((wrap64 (bt a0 (ji6))) - 48)) > 9
        ·
         rw [if_pos c13] at H
         have c13b0 : decide (9 < (wrap64 ((wrap64 (bt a0 (ji6))) - 48))) = true := decide_eq_true c13
         clear c13
         obtain rfl := Option.some.inj H
         have p5 : 0 ≤ (a1 : Int) := of_decide_eq_true zz6
         have q5 : a1 < (a0.size : Int) := of_decide_eq_true zz6
         have hx5 := bt_at a0 a1
         replace p5 := eq_true p5
         replace q5 := eq_true q5
         have p9 : 0 ≤ ((ji6) : Int) := of_decide_eq_true zz6
         have q9 : (ji6) < (a0.size : Int) := of_decide_eq_true zz6
         have hx9 := bt_at a0 (ji6)
         replace p9 := eq_true p9
         replace q9 := eq_true q9
         go_enter Try.func74, Try.ntmps74
         go_wp2
         go_ret
         exact ⟨zz64, zz2⟩
        ·
         rw [if_neg c13] at H
         have c13b0 : decide (9 < (wrap64 ((wrap64 (bt a0 (ji6))) - 48))) = false := decide_eq_false c13
         clear c13
         obtain rfl := Option.some.inj H
         have p5 : 0 ≤ (a1 : Int) := of_decide_eq_true zz6
         have q5 : a1 < (a0.size : Int) := of_decide_eq_true zz6
         have hx5 := bt_at a0 a1
         replace p5 := eq_true p5
         replace q5 := eq_true q5
         have p9 : 0 ≤ ((ji6) : Int) := of_decide_eq_true zz6
         have q9 : (ji6) < (a0.size : Int) := of_decide_eq_true zz6
         have hx9 := bt_at a0 (ji6)
         replace p9 := eq_true p9
         replace q9 := eq_true q9
         go_enter Try.func74, Try.ntmps74
         go_wp2
         go_ret
         exact ⟨zz64, zz2⟩
    ·
     rw [if_neg c8] at H
     exact absurd H zz43
   ·
    rw [if_neg c7] at H
    exact absurd H zz43
  ·
   rw [if_neg c4] at H
   exact absurd H zz43
 ·
  rw [if_neg c3] at H
  exact absurd H zz43
end Go.Proofs.Ytgddaddoabjgiaa.PB
