-- Written by a program of this session (print2, a turned print): not PRINTED BY print.sh
import Derived.Test.YtomaajagncjiiaaPCx0
namespace Go.Proofs.Ytomaajagncjiiaa.PC
open Go.RowKit Go.Proofs.YtomaajagncjiiaaW.PrintWords Go.Proofs.YtomaajagncjiiaaW.PrintLast Go.Proofs.YtomaajagncjiiaaW.PrintMore
attribute [local go_sem] max2_int min2_int max_two min_two max_three min_three max_four min_four   -- for this text's walks alone
set_option linter.unusedVariables false
set_option linter.unusedSimpArgs false

/-! ### gantletref05_Get: function 46 -/
mutual
def gantletref05_Get.j0 : Nat → ByteArray → Int → Bool → Int → Int → Bool → Int → Option (Int × Int × Bool × Int × Int × Int)
 | 0, _, _, _, _, _, _, _ => none
 | k + 1, x0, x1, x21, x128000, x128001, x128002, x128003 => if x21 = true then (some (x128000, x128001, x128002, x128003, 0, 1)) else (if x1 = (x0.size : Int) then (some (x128000, x128001, x128002, x128003, x1, 2)) else (if 0 ≤ x1 then (if x1 < (x0.size : Int) then (if (Int.tmod (wrap64 (bt x0 x1)) 32) = 31 then (gantletref05_Get.l0 k x0 x1 0 (wrap64 (x1 + 1)) x128000 x128001 x128002 x128003 (wrap64 (Int.tdiv (wrap64 (bt x0 x1)) 64)) (Int.tmod (wrap64 (bt x0 x1)) 32) ((Int.tmod (wrap64 (Int.tdiv (wrap64 (bt x0 x1)) 32)) 2) == 1) 0) else (some (wrap64 (Int.tdiv (wrap64 (bt x0 x1)) 64), Int.tmod (wrap64 (bt x0 x1)) 32, ((Int.tmod (wrap64 (Int.tdiv (wrap64 (bt x0 x1)) 32)) 2) == 1), 0, wrap64 (x1 + 1), 0))) else (none)) else (none)))
def gantletref05_Get.l0 : Nat → ByteArray → Int → Int → Int → Int → Int → Bool → Int → Int → Int → Bool → Int → Option (Int × Int × Bool × Int × Int × Int)
 | 0, _, _, _, _, _, _, _, _, _, _, _, _ => none
 | k + 1, x0, x1, x10, x11, x128000, x128001, x128002, x128003, x129000, x129001, x129002, x129003 => if x11 < (x0.size : Int) then (if 0 ≤ x11 then (if x11 = (wrap64 (x1 + 1)) then (gantletref05_Get.j2 k x0 x1 x10 x11 (wrap64 (bt x0 x11)) ((wrap64 (bt x0 x11)) == 128) x128000 x128001 x128002 x128003 x129000 x129001 x129002 x129003) else (gantletref05_Get.j2 k x0 x1 x10 x11 (wrap64 (bt x0 x11)) false x128000 x128001 x128002 x128003 x129000 x129001 x129002 x129003)) else (none)) else (some (x128000, x128001, x128002, x128003, (x0.size : Int), 2))
def gantletref05_Get.j2 : Nat → ByteArray → Int → Int → Int → Int → Bool → Int → Int → Bool → Int → Int → Int → Bool → Int → Option (Int × Int × Bool × Int × Int × Int)
 | 0, _, _, _, _, _, _, _, _, _, _, _, _, _, _ => none
 | k + 1, x0, x1, x10, x11, x12, x67, x128000, x128001, x128002, x128003, x129000, x129001, x129002, x129003 => if x67 = true then (some (x128000, x128001, x128002, x128003, x11, 3)) else (if (wrap64 ((wrap64 (128 * x10)) + (Int.tmod x12 128))) > 268435455 then (some (x128000, x128001, x128002, x128003, x11, 3)) else (if x12 < 128 then (if (wrap64 ((wrap64 (128 * x10)) + (Int.tmod x12 128))) < 31 then (some (x128000, x128001, x128002, x128003, x11, 3)) else (some (x129000, wrap64 ((wrap64 (128 * x10)) + (Int.tmod x12 128)), x129002, x129003, wrap64 (x11 + 1), 0))) else (gantletref05_Get.l0 k x0 x1 (wrap64 ((wrap64 (128 * x10)) + (Int.tmod x12 128))) (wrap64 (x11 + 1)) x128000 x128001 x128002 x128003 x129000 x129001 x129002 x129003)))
end
def gantletref05_Get.f (k : Nat) (a0 : ByteArray) (a1 : Int) : Option (Int × Int × Bool × Int × Int × Int) := if a1 < 0 then (gantletref05_Get.j0 k a0 a1 true 0 0 false 0) else (gantletref05_Get.j0 k a0 a1 (decide (a1 > (a0.size : Int))) 0 0 false 0)
theorem gantletref05_Get.mono_l : ∀ k, (∀ y0 y1 y2 y3 y4 y5 y6, LeO (gantletref05_Get.j0 k y0 y1 y2 y3 y4 y5 y6) (gantletref05_Get.j0 (k + 1) y0 y1 y2 y3 y4 y5 y6)) ∧ (∀ y0 y1 y2 y3 y4 y5 y6 y7 y8 y9 y10 y11, LeO (gantletref05_Get.l0 k y0 y1 y2 y3 y4 y5 y6 y7 y8 y9 y10 y11) (gantletref05_Get.l0 (k + 1) y0 y1 y2 y3 y4 y5 y6 y7 y8 y9 y10 y11)) ∧ (∀ y0 y1 y2 y3 y4 y5 y6 y7 y8 y9 y10 y11 y12 y13, LeO (gantletref05_Get.j2 k y0 y1 y2 y3 y4 y5 y6 y7 y8 y9 y10 y11 y12 y13) (gantletref05_Get.j2 (k + 1) y0 y1 y2 y3 y4 y5 y6 y7 y8 y9 y10 y11 y12 y13))
 | 0 => ⟨fun _ _ _ _ _ _ _ r h => by simp [gantletref05_Get.j0] at h, fun _ _ _ _ _ _ _ _ _ _ _ _ r h => by simp [gantletref05_Get.l0] at h, fun _ _ _ _ _ _ _ _ _ _ _ _ _ _ r h => by simp [gantletref05_Get.j2] at h⟩
 | k + 1 => by
   obtain ⟨ih0, ih1, ih2⟩ := gantletref05_Get.mono_l k
   refine ⟨?_, ?_, ?_⟩
   ·
    intro y0 y1 y2 y3 y4 y5 y6
    unfold gantletref05_Get.j0
    repeat' first
    | (with_reducible exact ih0 _ _ _ _ _ _ _)
    | (with_reducible exact ih1 _ _ _ _ _ _ _ _ _ _ _ _)
    | (with_reducible exact ih2 _ _ _ _ _ _ _ _ _ _ _ _ _ _)
    | (with_reducible exact LeO.refl _)
    | (with_reducible exact LeO.none _)
    | (with_reducible refine LeO.ite ?_ ?_)
    | (with_reducible refine LeO.bind ?_ (fun _ => ?_))
    | exact ih0 _ _ _ _ _ _ _
    | exact ih1 _ _ _ _ _ _ _ _ _ _ _ _
    | exact ih2 _ _ _ _ _ _ _ _ _ _ _ _ _ _
    | exact LeO.none _
    | refine LeO.ite ?_ ?_
    | refine LeO.bind ?_ (fun _ => ?_)
   ·
    intro y0 y1 y2 y3 y4 y5 y6 y7 y8 y9 y10 y11
    unfold gantletref05_Get.l0
    repeat' first
    | (with_reducible exact ih0 _ _ _ _ _ _ _)
    | (with_reducible exact ih1 _ _ _ _ _ _ _ _ _ _ _ _)
    | (with_reducible exact ih2 _ _ _ _ _ _ _ _ _ _ _ _ _ _)
    | (with_reducible exact LeO.refl _)
    | (with_reducible exact LeO.none _)
    | (with_reducible refine LeO.ite ?_ ?_)
    | (with_reducible refine LeO.bind ?_ (fun _ => ?_))
    | exact ih0 _ _ _ _ _ _ _
    | exact ih1 _ _ _ _ _ _ _ _ _ _ _ _
    | exact ih2 _ _ _ _ _ _ _ _ _ _ _ _ _ _
    | exact LeO.none _
    | refine LeO.ite ?_ ?_
    | refine LeO.bind ?_ (fun _ => ?_)
   ·
    intro y0 y1 y2 y3 y4 y5 y6 y7 y8 y9 y10 y11 y12 y13
    unfold gantletref05_Get.j2
    repeat' first
    | (with_reducible exact ih0 _ _ _ _ _ _ _)
    | (with_reducible exact ih1 _ _ _ _ _ _ _ _ _ _ _ _)
    | (with_reducible exact ih2 _ _ _ _ _ _ _ _ _ _ _ _ _ _)
    | (with_reducible exact LeO.refl _)
    | (with_reducible exact LeO.none _)
    | (with_reducible refine LeO.ite ?_ ?_)
    | (with_reducible refine LeO.bind ?_ (fun _ => ?_))
    | exact ih0 _ _ _ _ _ _ _
    | exact ih1 _ _ _ _ _ _ _ _ _ _ _ _
    | exact ih2 _ _ _ _ _ _ _ _ _ _ _ _ _ _
    | exact LeO.none _
    | refine LeO.ite ?_ ?_
    | refine LeO.bind ?_ (fun _ => ?_)
theorem gantletref05_Get.mono : ∀ a0 a1 k, LeO (gantletref05_Get.f k a0 a1) (gantletref05_Get.f (k + 1) a0 a1) := by
 intro a0 a1 k
 obtain ⟨ih0, ih1, ih2⟩ := gantletref05_Get.mono_l k
 unfold gantletref05_Get.f
 repeat' first
  | (with_reducible exact ih0 _ _ _ _ _ _ _)
  | (with_reducible exact ih1 _ _ _ _ _ _ _ _ _ _ _ _)
  | (with_reducible exact ih2 _ _ _ _ _ _ _ _ _ _ _ _ _ _)
  | (with_reducible exact LeO.refl _)
  | (with_reducible exact LeO.none _)
  | (with_reducible refine LeO.ite ?_ ?_)
  | (with_reducible refine LeO.bind ?_ (fun _ => ?_))
  | exact ih0 _ _ _ _ _ _ _
  | exact ih1 _ _ _ _ _ _ _ _ _ _ _ _
  | exact ih2 _ _ _ _ _ _ _ _ _ _ _ _ _ _
  | exact LeO.none _
  | refine LeO.ite ?_ ?_
  | refine LeO.bind ?_ (fun _ => ?_)
set_option maxHeartbeats 8000000 in
set_option maxRecDepth 100000 in
theorem gantletref05_Get.calls (k : Nat) (a0 : ByteArray) (a1 : Int) (r1 : Int) (r2 : Int) (r3 : Bool) (r4 : Int) (r5 : Int) (r6 : Int) (w : World) (h : gantletref05_Get.f k a0 a1 = some (r1, r2, r3, r4, r5, r6)) :
 Calls Try.prog 46 #[.string a0, .int .i64 a1] w fun e w' => e = .returned (.tuple #[.agg #[.int .i64 r1, .int .i64 r2, .bool r3, .int .i64 r4], .int .i64 r5, .int .i64 r6]) ∧ Below w.heap.size w w' := by
 have hu34 := Try.underlying34
 have HB := Aside0.mk (Below.refl w.heap.size w)
 have H : (if a1 < 0 then (gantletref05_Get.j0 k a0 a1 true 0 0 false 0) else (gantletref05_Get.j0 k a0 a1 (decide (a1 > (a0.size : Int))) 0 0 false 0)) = some (r1, r2, r3, r4, r5, r6) := h
 clear h
 have HC3 := Aside0.mk H
 clear H
 go_enter Try.func46, Try.ntmps46
 go_upto_region 2 with (first | ((with_reducible refine gate_dst (N := 4) rfl ?_); (try (refine gate_guard (by rfl) ?_; dsimp only)); refine box_event ?hg (N := 4) ?hd (cs := #[.int .i64 0, .int .i64 0, .bool false, .int .i64 0]) (t := 34) ?hr ?_; (case hd => rfl); (case hg => rfl); (case hr => first | (go_simp; done) | (go_simp; rfl)); intro gb126 hg w4 hbox hb; have n0_ := Aside0.mk (below_step (by repeat (first | (with_reducible first | exact HB.out | apply below_alloc | apply pw_below_drewN | apply below_drew1) | exact HB.out)) hb); have n1_ := Aside0.mk (hbox); have n2_ := Aside0.mk ((by rw [hg]; exact (below_size (by repeat (first | (with_reducible first | exact HB.out | apply below_alloc | apply pw_below_drewN | apply below_drew1) | exact HB.out))) : w.heap.size ≤ gb126)); have n3_ := Aside0.mk ((by rw [hg]; exact (below_size (by repeat (first | (with_reducible first | exact HB.out | apply below_alloc | apply pw_below_drewN | apply below_drew1) | exact HB.out))) : w.heap.size ≤ gb126)); clear HB; have HB := n0_; have BK126 := n1_; have GW126 := n2_; have GE126 := n3_; clear n0_ n1_ n2_ n3_; clear hb hbox hg) | ((with_reducible refine gate_dst (N := 7) rfl ?_); (try (refine gate_guard (by rfl) ?_; dsimp only)); refine box_event ?hg (N := 7) ?hd (cs := #[.int .i64 0, .int .i64 0, .bool false, .int .i64 0]) (t := 34) ?hr ?_; (case hd => rfl); (case hg => rfl); (case hr => first | (go_simp; done) | (go_simp; rfl)); intro gb127 hg w5 hbox hb; have n0_ := Aside0.mk (blk_below (g := gb126) (o := .cells #[.int .i64 0, .int .i64 0, .bool false, .int .i64 0] 34 (0, 0)) (by (with_reducible repeat (first | refine blk_drewN ?_ _ | refine blk_drew ?_ | refine blk_alloc ?_ _)); exact BK126.out) hb); have n1_ := Aside0.mk (below_step (by repeat (first | (with_reducible first | exact HB.out | apply below_alloc | apply pw_below_drewN | apply below_drew1 | refine below_set ?_ GE126.out) | exact HB.out)) hb); have n2_ := Aside0.mk (hbox); have n3_ := Aside0.mk ((by rw [hg]; exact (below_size (by repeat (first | (with_reducible first | exact HB.out | apply below_alloc | apply pw_below_drewN | apply below_drew1 | refine below_set ?_ GE126.out) | exact HB.out))) : w.heap.size ≤ gb127)); have n4_ := Aside0.mk ((by rw [hg]; exact (below_size (by repeat (first | (with_reducible first | exact HB.out | apply below_alloc | apply pw_below_drewN | apply below_drew1 | refine below_set ?_ GE126.out) | exact HB.out))) : w.heap.size ≤ gb127)); have n5_ := Aside0.mk ((by rw [hg]; exact Nat.ne_of_lt (blk_lt (g := gb126) (o := .cells #[.int .i64 0, .int .i64 0, .bool false, .int .i64 0] 34 (0, 0)) (by (with_reducible repeat (first | refine blk_drewN ?_ _ | refine blk_drew ?_ | refine blk_alloc ?_ _)); exact BK126.out)) : gb126 ≠ gb127)); have n6_ := Aside0.mk ((by rw [hg]; exact Nat.ne_of_gt (blk_lt (g := gb126) (o := .cells #[.int .i64 0, .int .i64 0, .bool false, .int .i64 0] 34 (0, 0)) (by (with_reducible repeat (first | refine blk_drewN ?_ _ | refine blk_drew ?_ | refine blk_alloc ?_ _)); exact BK126.out)) : gb127 ≠ gb126)); clear BK126; clear HB; have BK126 := n0_; have HB := n1_; have BK127 := n2_; have GW127 := n3_; have GE127 := n4_; have NB126_127 := n5_; have NB127_126 := n6_; clear n0_ n1_ n2_ n3_ n4_ n5_ n6_; clear hb hbox hg; have hnb6 := NB127_126.out; have hnc6 := NB126_127.out; have hcz7_0 : w5.cell? ⟨gb127, 0, none⟩ = some (.int .i64 0) := (blk_cell BK127.out 0).trans rfl; have hcz7_1 : w5.cell? ⟨gb127, 1, none⟩ = some (.int .i64 0) := (blk_cell BK127.out 1).trans rfl; have hcz7_2 : w5.cell? ⟨gb127, 2, none⟩ = some (.bool false) := (blk_cell BK127.out 2).trans rfl; have hcz7_3 : w5.cell? ⟨gb127, 3, none⟩ = some (.int .i64 0) := (blk_cell BK127.out 3).trans rfl; have hfz7_0 := blk_frozen BK127.out 0; have hfz7_1 := blk_frozen BK127.out 1; have hfz7_2 := blk_frozen BK127.out 2; have hfz7_3 := blk_frozen BK127.out 3))
 (try simp only [Act.put, List.setIfInBounds_toArray, List.set_cons_zero, List.set_cons_succ])
 go_cut [21] (fun v21 wc => ∃ (kq : Nat) (x21_2 : Bool), v21 = .bool x21_2 ∧ Aside0 (gantletref05_Get.j0 kq a0 a1 x21_2 0 0 false 0 = some (r1, r2, r3, r4, r5, r6)) ∧ Aside0 (kq ≤ k) ∧ Aside0 (wc.heap[gb126]? = some (.cells #[.int .i64 0, .int .i64 0, .bool false, .int .i64 0] 34 (0, 0))) ∧ Aside0 (wc.heap[gb127]? = some (.cells #[.int .i64 0, .int .i64 0, .bool false, .int .i64 0] 34 (0, 0))) ∧ Aside0 (Below w.heap.size w wc))
 case first =>
  have H := HC3.out
  clear HC3
  by_cases c8 : a1 < 0
  ·
   rw [if_pos c8] at H
   have c8b0 : decide (a1 < 0) = true := decide_eq_true c8
   clear c8
   (first | rw [c8b0] | (simp only [i64_w, i32_w]; rw [c8b0]) | skip)
   have H' := Aside0.mk H
   clear H
   go_wp2
   go_meet
   case rel => exact ⟨_, (true), (by first | rfl | (simp; done) | (simp [*]; done) | (simp [show ∀ l : List UInt8, (!l.isEmpty) = (l != []) from fun l => by cases l <;> rfl]; done)), H', ⟨by first | omega | exact Nat.le_refl _⟩, ⟨by (with_reducible repeat (first | refine blk_drewN ?_ _ | refine blk_drew ?_ | refine blk_alloc ?_ _)); refine blk_far ?_ NB126_127.out _; (with_reducible repeat (first | refine blk_drewN ?_ _ | refine blk_drew ?_ | refine blk_alloc ?_ _)); refine blk_far ?_ NB126_127.out _; (with_reducible repeat (first | refine blk_drewN ?_ _ | refine blk_drew ?_ | refine blk_alloc ?_ _)); refine blk_far ?_ NB126_127.out _; (with_reducible repeat (first | refine blk_drewN ?_ _ | refine blk_drew ?_ | refine blk_alloc ?_ _)); refine blk_far ?_ NB126_127.out _; (with_reducible repeat (first | refine blk_drewN ?_ _ | refine blk_drew ?_ | refine blk_alloc ?_ _)); exact BK126.out⟩, ⟨by (with_reducible repeat (first | refine blk_drewN ?_ _ | refine blk_drew ?_ | refine blk_alloc ?_ _)); refine blk_put (cs := #[.int .i64 0, .int .i64 0, .bool false, .int .i64 0]) ?_ 3 _ rfl; (with_reducible repeat (first | refine blk_drewN ?_ _ | refine blk_drew ?_ | refine blk_alloc ?_ _)); refine blk_put (cs := #[.int .i64 0, .int .i64 0, .bool false, .int .i64 0]) ?_ 2 _ rfl; (with_reducible repeat (first | refine blk_drewN ?_ _ | refine blk_drew ?_ | refine blk_alloc ?_ _)); refine blk_put (cs := #[.int .i64 0, .int .i64 0, .bool false, .int .i64 0]) ?_ 1 _ rfl; (with_reducible repeat (first | refine blk_drewN ?_ _ | refine blk_drew ?_ | refine blk_alloc ?_ _)); refine blk_put (cs := #[.int .i64 0, .int .i64 0, .bool false, .int .i64 0]) ?_ 0 _ rfl; (with_reducible repeat (first | refine blk_drewN ?_ _ | refine blk_drew ?_ | refine blk_alloc ?_ _)); exact BK127.out⟩, ⟨by repeat (first | (with_reducible first | exact HB.out | apply below_alloc | apply pw_below_drewN | apply below_drew1 | refine below_set ?_ GE126.out | refine below_set ?_ GE127.out) | exact HB.out)⟩⟩
  ·
   rw [if_neg c8] at H
   have c8b0 : decide (a1 < 0) = false := decide_eq_false c8
   clear c8
   (first | rw [c8b0] | (simp only [i64_w, i32_w]; rw [c8b0]) | skip)
   have H' := Aside0.mk H
   clear H
   go_wp2
   go_meet
   case rel => exact ⟨_, (decide (a1 > (a0.size : Int))), (by first | rfl | (simp; done) | (simp [*]; done) | (simp [show ∀ l : List UInt8, (!l.isEmpty) = (l != []) from fun l => by cases l <;> rfl]; done)), H', ⟨by first | omega | exact Nat.le_refl _⟩, ⟨by (with_reducible repeat (first | refine blk_drewN ?_ _ | refine blk_drew ?_ | refine blk_alloc ?_ _)); refine blk_far ?_ NB126_127.out _; (with_reducible repeat (first | refine blk_drewN ?_ _ | refine blk_drew ?_ | refine blk_alloc ?_ _)); refine blk_far ?_ NB126_127.out _; (with_reducible repeat (first | refine blk_drewN ?_ _ | refine blk_drew ?_ | refine blk_alloc ?_ _)); refine blk_far ?_ NB126_127.out _; (with_reducible repeat (first | refine blk_drewN ?_ _ | refine blk_drew ?_ | refine blk_alloc ?_ _)); refine blk_far ?_ NB126_127.out _; (with_reducible repeat (first | refine blk_drewN ?_ _ | refine blk_drew ?_ | refine blk_alloc ?_ _)); exact BK126.out⟩, ⟨by (with_reducible repeat (first | refine blk_drewN ?_ _ | refine blk_drew ?_ | refine blk_alloc ?_ _)); refine blk_put (cs := #[.int .i64 0, .int .i64 0, .bool false, .int .i64 0]) ?_ 3 _ rfl; (with_reducible repeat (first | refine blk_drewN ?_ _ | refine blk_drew ?_ | refine blk_alloc ?_ _)); refine blk_put (cs := #[.int .i64 0, .int .i64 0, .bool false, .int .i64 0]) ?_ 2 _ rfl; (with_reducible repeat (first | refine blk_drewN ?_ _ | refine blk_drew ?_ | refine blk_alloc ?_ _)); refine blk_put (cs := #[.int .i64 0, .int .i64 0, .bool false, .int .i64 0]) ?_ 1 _ rfl; (with_reducible repeat (first | refine blk_drewN ?_ _ | refine blk_drew ?_ | refine blk_alloc ?_ _)); refine blk_put (cs := #[.int .i64 0, .int .i64 0, .bool false, .int .i64 0]) ?_ 0 _ rfl; (with_reducible repeat (first | refine blk_drewN ?_ _ | refine blk_drew ?_ | refine blk_alloc ?_ _)); exact BK127.out⟩, ⟨by repeat (first | (with_reducible first | exact HB.out | apply below_alloc | apply pw_below_drewN | apply below_drew1 | refine below_set ?_ GE126.out | refine below_set ?_ GE127.out) | exact HB.out)⟩⟩
 case rest =>
  clear HC3
  try clear p2
  try clear c4
  try clear c6
  try clear c8
  try clear c8b0
  try clear hcz7_0
  try clear hcz7_1
  try clear hcz7_2
  try clear hcz7_3
  try clear hfz7_0
  try clear hfz7_1
  try clear hfz7_2
  try clear hfz7_3
  obtain ⟨kq, x21_2, rfl, HA, HJ2, BK126, BK127, HB⟩ := hcut
  cases kq with
  | zero => exact absurd HA.out (by simp [gantletref05_Get.j0])
  | succ kj2 =>
    have H := HA.out
    clear HA
    simp only [gantletref05_Get.j0] at H
    by_cases c9 : x21_2 = true
    ·
     subst c9
     have H1 : (some (0, 0, false, 0, 0, 1)) = some (r1, r2, r3, r4, r5, r6) := by rw [if_pos rfl] at H; exact H
     clear H
     have H := H1
     clear H1
     simp only [Option.some.injEq, Prod.mk.injEq] at H
     obtain ⟨rfl, rfl, rfl, rfl, rfl, rfl⟩ := H
     have hnb10 := NB127_126.out
     have hnc10 := NB126_127.out
     have hcz11_0 : wc.cell? ⟨gb127, 0, none⟩ = some (.int .i64 0) := (blk_cell BK127.out 0).trans rfl
     have hcz11_1 : wc.cell? ⟨gb127, 1, none⟩ = some (.int .i64 0) := (blk_cell BK127.out 1).trans rfl
     have hcz11_2 : wc.cell? ⟨gb127, 2, none⟩ = some (.bool false) := (blk_cell BK127.out 2).trans rfl
     have hcz11_3 : wc.cell? ⟨gb127, 3, none⟩ = some (.int .i64 0) := (blk_cell BK127.out 3).trans rfl
     have hfz11_0 := blk_frozen BK127.out 0
     have hfz11_1 := blk_frozen BK127.out 1
     have hfz11_2 := blk_frozen BK127.out 2
     have hfz11_3 := blk_frozen BK127.out 3
     have hcz12_0 : wc.cell? ⟨gb126, 0, none⟩ = some (.int .i64 0) := (blk_cell BK126.out 0).trans rfl
     have hcz12_1 : wc.cell? ⟨gb126, 1, none⟩ = some (.int .i64 0) := (blk_cell BK126.out 1).trans rfl
     have hcz12_2 : wc.cell? ⟨gb126, 2, none⟩ = some (.bool false) := (blk_cell BK126.out 2).trans rfl
     have hcz12_3 : wc.cell? ⟨gb126, 3, none⟩ = some (.int .i64 0) := (blk_cell BK126.out 3).trans rfl
     have hfz12_0 := blk_frozen BK126.out 0
     have hfz12_1 := blk_frozen BK126.out 1
     have hfz12_2 := blk_frozen BK126.out 2
     have hfz12_3 := blk_frozen BK126.out 3
     go_wp2
     refine bodyPost_ret (results_ctt rfl _ _ gb126 34 #[.int .i64 0, .int .i64 0, .bool false, .int .i64 0] (0, 0) _ rfl (by (with_reducible repeat (first | refine blk_drewN ?_ _ | refine blk_drew ?_ | refine blk_alloc ?_ _)); refine blk_put (cs := #[.int .i64 0, .int .i64 0, .bool false, .int .i64 0]) ?_ 3 _ rfl; (with_reducible repeat (first | refine blk_drewN ?_ _ | refine blk_drew ?_ | refine blk_alloc ?_ _)); refine blk_put (cs := #[.int .i64 0, .int .i64 0, .bool false, .int .i64 0]) ?_ 2 _ rfl; (with_reducible repeat (first | refine blk_drewN ?_ _ | refine blk_drew ?_ | refine blk_alloc ?_ _)); refine blk_put (cs := #[.int .i64 0, .int .i64 0, .bool false, .int .i64 0]) ?_ 1 _ rfl; (with_reducible repeat (first | refine blk_drewN ?_ _ | refine blk_drew ?_ | refine blk_alloc ?_ _)); refine blk_put (cs := #[.int .i64 0, .int .i64 0, .bool false, .int .i64 0]) ?_ 0 _ rfl; (with_reducible repeat (first | refine blk_drewN ?_ _ | refine blk_drew ?_ | refine blk_alloc ?_ _)); exact BK126.out) Try.underlying34 rfl (by kernel_rfl)) rfl ?_
     exact ⟨by first | rfl | (simp [errW_none, errW_some] <;> rfl) | (simp [*, errW_none, errW_some] <;> rfl), by repeat (first | (with_reducible first | exact HB.out | apply below_alloc | apply pw_below_drewN | apply below_drew1 | refine below_set ?_ GE126.out | refine below_set ?_ GE127.out) | exact HB.out)⟩
    ·
     replace c9 := Bool.eq_false_iff.mpr c9
     subst c9
     have H1 : (if a1 = (a0.size : Int) then (some (0, 0, false, 0, a1, 2)) else (if 0 ≤ a1 then (if a1 < (a0.size : Int) then (if (Int.tmod (wrap64 (bt a0 a1)) 32) = 31 then (gantletref05_Get.l0 kj2 a0 a1 0 (wrap64 (a1 + 1)) 0 0 false 0 (wrap64 (Int.tdiv (wrap64 (bt a0 a1)) 64)) (Int.tmod (wrap64 (bt a0 a1)) 32) ((Int.tmod (wrap64 (Int.tdiv (wrap64 (bt a0 a1)) 32)) 2) == 1) 0) else (some (wrap64 (Int.tdiv (wrap64 (bt a0 a1)) 64), Int.tmod (wrap64 (bt a0 a1)) 32, ((Int.tmod (wrap64 (Int.tdiv (wrap64 (bt a0 a1)) 32)) 2) == 1), 0, wrap64 (a1 + 1), 0))) else (none)) else (none))) = some (r1, r2, r3, r4, r5, r6) := by rw [if_neg (show ¬ (false = true) by decide)] at H; exact H
     clear H
     have H := H1
     clear H1
     by_cases c13 : a1 = (a0.size : Int)
     ·
      rw [if_pos c13] at H
      have c13b0 : (a1 == (a0.size : Int)) = true := beq_iff_eq.mpr c13
      have c13b1 : (a1 != (a0.size : Int)) = false := bne_eq_false_iff_eq.mpr c13
      clear c13
      simp only [Option.some.injEq, Prod.mk.injEq] at H
      obtain ⟨rfl, rfl, rfl, rfl, rfl, rfl⟩ := H
      have hnb14 := NB127_126.out
      have hnc14 := NB126_127.out
      have hcz15_0 : wc.cell? ⟨gb127, 0, none⟩ = some (.int .i64 0) := (blk_cell BK127.out 0).trans rfl
      have hcz15_1 : wc.cell? ⟨gb127, 1, none⟩ = some (.int .i64 0) := (blk_cell BK127.out 1).trans rfl
      have hcz15_2 : wc.cell? ⟨gb127, 2, none⟩ = some (.bool false) := (blk_cell BK127.out 2).trans rfl
      have hcz15_3 : wc.cell? ⟨gb127, 3, none⟩ = some (.int .i64 0) := (blk_cell BK127.out 3).trans rfl
      have hfz15_0 := blk_frozen BK127.out 0
      have hfz15_1 := blk_frozen BK127.out 1
      have hfz15_2 := blk_frozen BK127.out 2
      have hfz15_3 := blk_frozen BK127.out 3
      have hcz16_0 : wc.cell? ⟨gb126, 0, none⟩ = some (.int .i64 0) := (blk_cell BK126.out 0).trans rfl
      have hcz16_1 : wc.cell? ⟨gb126, 1, none⟩ = some (.int .i64 0) := (blk_cell BK126.out 1).trans rfl
      have hcz16_2 : wc.cell? ⟨gb126, 2, none⟩ = some (.bool false) := (blk_cell BK126.out 2).trans rfl
      have hcz16_3 : wc.cell? ⟨gb126, 3, none⟩ = some (.int .i64 0) := (blk_cell BK126.out 3).trans rfl
      have hfz16_0 := blk_frozen BK126.out 0
      have hfz16_1 := blk_frozen BK126.out 1
      have hfz16_2 := blk_frozen BK126.out 2
      have hfz16_3 := blk_frozen BK126.out 3
      go_wp2
      refine bodyPost_ret (results_ctt rfl _ _ gb126 34 #[.int .i64 0, .int .i64 0, .bool false, .int .i64 0] (0, 0) _ rfl (by (with_reducible repeat (first | refine blk_drewN ?_ _ | refine blk_drew ?_ | refine blk_alloc ?_ _)); refine blk_put (cs := #[.int .i64 0, .int .i64 0, .bool false, .int .i64 0]) ?_ 3 _ rfl; (with_reducible repeat (first | refine blk_drewN ?_ _ | refine blk_drew ?_ | refine blk_alloc ?_ _)); refine blk_put (cs := #[.int .i64 0, .int .i64 0, .bool false, .int .i64 0]) ?_ 2 _ rfl; (with_reducible repeat (first | refine blk_drewN ?_ _ | refine blk_drew ?_ | refine blk_alloc ?_ _)); refine blk_put (cs := #[.int .i64 0, .int .i64 0, .bool false, .int .i64 0]) ?_ 1 _ rfl; (with_reducible repeat (first | refine blk_drewN ?_ _ | refine blk_drew ?_ | refine blk_alloc ?_ _)); refine blk_put (cs := #[.int .i64 0, .int .i64 0, .bool false, .int .i64 0]) ?_ 0 _ rfl; (with_reducible repeat (first | refine blk_drewN ?_ _ | refine blk_drew ?_ | refine blk_alloc ?_ _)); exact BK126.out) Try.underlying34 rfl (by kernel_rfl)) rfl ?_
      exact ⟨by first | rfl | (simp [errW_none, errW_some] <;> rfl) | (simp [*, errW_none, errW_some] <;> rfl), by repeat (first | (with_reducible first | exact HB.out | apply below_alloc | apply pw_below_drewN | apply below_drew1 | refine below_set ?_ GE126.out | refine below_set ?_ GE127.out) | exact HB.out)⟩
     ·
      rw [if_neg c13] at H
      have c13b0 : (a1 == (a0.size : Int)) = false := beq_eq_false_iff_ne.mpr c13
      have c13b1 : (a1 != (a0.size : Int)) = true := bne_iff_ne.mpr c13
      by_cases c17 : 0 ≤ a1
      ·
       rw [if_pos c17] at H
       have c17b0 : decide (0 ≤ a1) = true := decide_eq_true c17
       clear c17
       by_cases c18 : a1 < (a0.size : Int)
       ·
        rw [if_pos c18] at H
        have c18b0 : decide (a1 < (a0.size : Int)) = true := decide_eq_true c18
        clear c18
        by_cases c20 : (Int.tmod (wrap64 (bt a0 a1)) 32) = 31
        ·
         rw [if_pos c20] at H
         have c20b0 : ((Int.tmod (wrap64 (bt a0 a1)) 32) == 31) = true := beq_iff_eq.mpr c20
         have c20b1 : ((Int.tmod (wrap64 (bt a0 a1)) 32) != 31) = false := bne_eq_false_iff_eq.mpr c20
         clear c20
         have H' := Aside0.mk H
         clear H
         have p19 : 0 ≤ (a1 : Int) := of_decide_eq_true (by first | (with_reducible assumption) | assumption)
         have q19 : a1 < (a0.size : Int) := of_decide_eq_true (by first | (with_reducible assumption) | assumption)
         have hx19 := bt_at a0 a1
         replace p19 := eq_true p19
         replace q19 := eq_true q19
         go_wp2_with (first | ((with_reducible refine gate_dst (N := 9) rfl ?_); (try (refine gate_guard (by rfl) ?_; dsimp only)); refine box_event ?hg (N := 9) ?hd (cs := #[.int .i64 0, .int .i64 0, .bool false, .int .i64 0]) (t := 34) ?hr ?_; (case hd => rfl); (case hg => rfl); (case hr => first | (go_simp; done) | (go_simp; rfl)); intro gb128 hg w21 hbox hb; have n0_ := Aside0.mk (blk_below (g := gb126) (o := .cells #[.int .i64 0, .int .i64 0, .bool false, .int .i64 0] 34 (0, 0)) (by (with_reducible repeat (first | refine blk_drewN ?_ _ | refine blk_drew ?_ | refine blk_alloc ?_ _)); exact BK126.out) hb); have n1_ := Aside0.mk (blk_below (g := gb127) (o := .cells #[.int .i64 0, .int .i64 0, .bool false, .int .i64 0] 34 (0, 0)) (by (with_reducible repeat (first | refine blk_drewN ?_ _ | refine blk_drew ?_ | refine blk_alloc ?_ _)); exact BK127.out) hb); have n2_ := Aside0.mk (below_step (by repeat (first | (with_reducible first | exact HB.out | apply below_alloc | apply pw_below_drewN | apply below_drew1 | refine below_set ?_ GE126.out | refine below_set ?_ GE127.out) | exact HB.out)) hb); have n3_ := Aside0.mk (hbox); have n4_ := Aside0.mk ((by rw [hg]; exact (below_size (by repeat (first | (with_reducible first | exact HB.out | apply below_alloc | apply pw_below_drewN | apply below_drew1 | refine below_set ?_ GE126.out | refine below_set ?_ GE127.out) | exact HB.out))) : w.heap.size ≤ gb128)); have n5_ := Aside0.mk ((by rw [hg]; exact (below_size (by repeat (first | (with_reducible first | exact HB.out | apply below_alloc | apply pw_below_drewN | apply below_drew1 | refine below_set ?_ GE126.out | refine below_set ?_ GE127.out) | exact HB.out))) : w.heap.size ≤ gb128)); have n6_ := Aside0.mk ((by rw [hg]; exact Nat.ne_of_lt (blk_lt (g := gb126) (o := .cells #[.int .i64 0, .int .i64 0, .bool false, .int .i64 0] 34 (0, 0)) (by (with_reducible repeat (first | refine blk_drewN ?_ _ | refine blk_drew ?_ | refine blk_alloc ?_ _)); exact BK126.out)) : gb126 ≠ gb128)); have n7_ := Aside0.mk ((by rw [hg]; exact Nat.ne_of_gt (blk_lt (g := gb126) (o := .cells #[.int .i64 0, .int .i64 0, .bool false, .int .i64 0] 34 (0, 0)) (by (with_reducible repeat (first | refine blk_drewN ?_ _ | refine blk_drew ?_ | refine blk_alloc ?_ _)); exact BK126.out)) : gb128 ≠ gb126)); have n8_ := Aside0.mk ((by rw [hg]; exact Nat.ne_of_lt (blk_lt (g := gb127) (o := .cells #[.int .i64 0, .int .i64 0, .bool false, .int .i64 0] 34 (0, 0)) (by (with_reducible repeat (first | refine blk_drewN ?_ _ | refine blk_drew ?_ | refine blk_alloc ?_ _)); exact BK127.out)) : gb127 ≠ gb128)); have n9_ := Aside0.mk ((by rw [hg]; exact Nat.ne_of_gt (blk_lt (g := gb127) (o := .cells #[.int .i64 0, .int .i64 0, .bool false, .int .i64 0] 34 (0, 0)) (by (with_reducible repeat (first | refine blk_drewN ?_ _ | refine blk_drew ?_ | refine blk_alloc ?_ _)); exact BK127.out)) : gb128 ≠ gb127)); clear BK126; clear BK127; clear HB; have BK126 := n0_; have BK127 := n1_; have HB := n2_; have BK128 := n3_; have GW128 := n4_; have GE128 := n5_; have NB126_128 := n6_; have NB128_126 := n7_; have NB127_128 := n8_; have NB128_127 := n9_; clear n0_ n1_ n2_ n3_ n4_ n5_ n6_ n7_ n8_ n9_; clear hb hbox hg; have hnb22 := NB128_126.out; have hnc22 := NB126_128.out; have hnb23 := NB128_127.out; have hnc23 := NB127_128.out; have hcz24_0 : w21.cell? ⟨gb128, 0, none⟩ = some (.int .i64 0) := (blk_cell BK128.out 0).trans rfl; have hcz24_1 : w21.cell? ⟨gb128, 1, none⟩ = some (.int .i64 0) := (blk_cell BK128.out 1).trans rfl; have hcz24_2 : w21.cell? ⟨gb128, 2, none⟩ = some (.bool false) := (blk_cell BK128.out 2).trans rfl; have hcz24_3 : w21.cell? ⟨gb128, 3, none⟩ = some (.int .i64 0) := (blk_cell BK128.out 3).trans rfl; have hfz24_0 := blk_frozen BK128.out 0; have hfz24_1 := blk_frozen BK128.out 1; have hfz24_2 := blk_frozen BK128.out 2; have hfz24_3 := blk_frozen BK128.out 3))
         go_loopg [10, 11] kj2 (fun kq v10 v11 w' => ∃ (x10_2 : Int) (x11_2 : Int) (x127000_2 : Int) (x127001_2 : Int) (x127002_2 : Bool) (x127003_2 : Int) (x129001_2 : Int), v10 = .int .i64 x10_2 ∧ v11 = .int .i64 x11_2 ∧ Aside0 (gantletref05_Get.l0 kq a0 a1 x10_2 x11_2 0 0 false 0 (wrap64 (Int.tdiv (wrap64 (bt a0 a1)) 64)) x129001_2 ((Int.tmod (wrap64 (Int.tdiv (wrap64 (bt a0 a1)) 32)) 2) == 1) 0 = some (r1, r2, r3, r4, r5, r6)) ∧ Aside0 (kq ≤ kj2) ∧ Aside0 (w'.heap[gb126]? = some (.cells #[.int .i64 x127000_2, .int .i64 x127001_2, .bool x127002_2, .int .i64 x127003_2] 34 (0, 0))) ∧ Aside0 (w'.heap[gb127]? = some (.cells #[.int .i64 0, .int .i64 0, .bool false, .int .i64 0] 34 (0, 0))) ∧ Aside0 (w'.heap[gb128]? = some (.cells #[.int .i64 (wrap64 (Int.tdiv (wrap64 (bt a0 a1)) 64)), .int .i64 x129001_2, .bool ((Int.tmod (wrap64 (Int.tdiv (wrap64 (bt a0 a1)) 32)) 2) == 1), .int .i64 0] 34 (0, 0))) ∧ Aside0 (Below w.heap.size w w'))
         case atStart => exact ⟨(0), (wrap64 (a1 + 1)), (0), (0), (false), (0), (Int.tmod (wrap64 (bt a0 a1)) 32), (by first | rfl | (simp; done) | (simp [*]; done) | (simp [show ∀ l : List UInt8, (!l.isEmpty) = (l != []) from fun l => by cases l <;> rfl]; done)), (by first | rfl | (simp; done) | (simp [*]; done) | (simp [show ∀ l : List UInt8, (!l.isEmpty) = (l != []) from fun l => by cases l <;> rfl]; done)), H', ⟨Nat.le_refl _⟩, ⟨by (with_reducible repeat (first | refine blk_drewN ?_ _ | refine blk_drew ?_ | refine blk_alloc ?_ _)); refine blk_far ?_ NB126_128.out _; (with_reducible repeat (first | refine blk_drewN ?_ _ | refine blk_drew ?_ | refine blk_alloc ?_ _)); refine blk_far ?_ NB126_128.out _; (with_reducible repeat (first | refine blk_drewN ?_ _ | refine blk_drew ?_ | refine blk_alloc ?_ _)); refine blk_far ?_ NB126_128.out _; (with_reducible repeat (first | refine blk_drewN ?_ _ | refine blk_drew ?_ | refine blk_alloc ?_ _)); refine blk_far ?_ NB126_128.out _; (with_reducible repeat (first | refine blk_drewN ?_ _ | refine blk_drew ?_ | refine blk_alloc ?_ _)); exact BK126.out⟩, ⟨by (with_reducible repeat (first | refine blk_drewN ?_ _ | refine blk_drew ?_ | refine blk_alloc ?_ _)); refine blk_far ?_ NB127_128.out _; (with_reducible repeat (first | refine blk_drewN ?_ _ | refine blk_drew ?_ | refine blk_alloc ?_ _)); refine blk_far ?_ NB127_128.out _; (with_reducible repeat (first | refine blk_drewN ?_ _ | refine blk_drew ?_ | refine blk_alloc ?_ _)); refine blk_far ?_ NB127_128.out _; (with_reducible repeat (first | refine blk_drewN ?_ _ | refine blk_drew ?_ | refine blk_alloc ?_ _)); refine blk_far ?_ NB127_128.out _; (with_reducible repeat (first | refine blk_drewN ?_ _ | refine blk_drew ?_ | refine blk_alloc ?_ _)); exact BK127.out⟩, ⟨by (with_reducible repeat (first | refine blk_drewN ?_ _ | refine blk_drew ?_ | refine blk_alloc ?_ _)); refine blk_put (cs := #[.int .i64 (wrap64 (Int.tdiv (wrap64 (bt a0 a1)) 64)), .int .i64 (Int.tmod (wrap64 (bt a0 a1)) 32), .bool ((Int.tmod (wrap64 (Int.tdiv (wrap64 (bt a0 a1)) 32)) 2) == 1), .int .i64 0]) ?_ 3 _ rfl; (with_reducible repeat (first | refine blk_drewN ?_ _ | refine blk_drew ?_ | refine blk_alloc ?_ _)); refine blk_put (cs := #[.int .i64 (wrap64 (Int.tdiv (wrap64 (bt a0 a1)) 64)), .int .i64 (Int.tmod (wrap64 (bt a0 a1)) 32), .bool false, .int .i64 0]) ?_ 2 _ rfl; (with_reducible repeat (first | refine blk_drewN ?_ _ | refine blk_drew ?_ | refine blk_alloc ?_ _)); refine blk_put (cs := #[.int .i64 (wrap64 (Int.tdiv (wrap64 (bt a0 a1)) 64)), .int .i64 0, .bool false, .int .i64 0]) ?_ 1 _ rfl; (with_reducible repeat (first | refine blk_drewN ?_ _ | refine blk_drew ?_ | refine blk_alloc ?_ _)); refine blk_put (cs := #[.int .i64 0, .int .i64 0, .bool false, .int .i64 0]) ?_ 0 _ rfl; (with_reducible repeat (first | refine blk_drewN ?_ _ | refine blk_drew ?_ | refine blk_alloc ?_ _)); exact BK128.out⟩, ⟨by repeat (first | (with_reducible first | exact HB.out | apply below_alloc | apply pw_below_drewN | apply below_drew1 | refine below_set ?_ GE126.out | refine below_set ?_ GE127.out | refine below_set ?_ GE128.out) | exact HB.out)⟩⟩
         case round =>
          clear H'
          try clear c1
          try clear p1
          try clear q1
          try clear hx1
          try clear c2
          try clear p2
          try clear c4
          try clear c6
          try clear p6
          try clear c8
          try clear c8b0
          try clear c9
          try clear c10
          try clear c13
          try clear c13b0
          try clear c13b1
          try clear c14
          try clear c17
          try clear c17b0
          try clear c18
          try clear c18b0
          try clear p19
          try clear q19
          try clear hx19
          try clear c20
          try clear c20b0
          try clear c20b1
          try clear c22
          try clear c23
          try clear hcz11_0
          try clear hcz11_1
          try clear hcz11_2
          try clear hcz11_3
          try clear hcz12_0
          try clear hcz12_1
          try clear hcz12_2
          try clear hcz12_3
          try clear hcz15_0
          try clear hcz15_1
          try clear hcz15_2
          try clear hcz15_3
          try clear hcz16_0
          try clear hcz16_1
          try clear hcz16_2
          try clear hcz16_3
          try clear hcz24_0
          try clear hcz24_1
          try clear hcz24_2
          try clear hcz24_3
          try clear hcz7_0
          try clear hcz7_1
          try clear hcz7_2
          try clear hcz7_3
          try clear hfz11_0
          try clear hfz11_1
          try clear hfz11_2
          try clear hfz11_3
          try clear hfz12_0
          try clear hfz12_1
          try clear hfz12_2
          try clear hfz12_3
          try clear hfz15_0
          try clear hfz15_1
          try clear hfz15_2
          try clear hfz15_3
          try clear hfz16_0
          try clear hfz16_1
          try clear hfz16_2
          try clear hfz16_3
          try clear hfz24_0
          try clear hfz24_1
          try clear hfz24_2
          try clear hfz24_3
          try clear hfz7_0
          try clear hfz7_1
          try clear hfz7_2
          try clear hfz7_3
          try clear p19
          try clear p2
          try clear q19
          obtain ⟨x10_2, x11_2, x127000_2, x127001_2, x127002_2, x127003_2, x129001_2, rfl, rfl, HA, HK2, BK126, BK127, BK128, HB⟩ := hrel
          cases gk with
          | zero => exact absurd HA.out (by simp [gantletref05_Get.l0])
          | succ k2 =>
            have H := HA.out
            clear HA
            simp only [gantletref05_Get.l0] at H
            by_cases c25 : x11_2 < (a0.size : Int)
            ·
             rw [if_pos c25] at H
             have c25b0 : decide (x11_2 < (a0.size : Int)) = true := decide_eq_true c25
             clear c25
             by_cases c26 : 0 ≤ x11_2
             ·
              rw [if_pos c26] at H
              have c26b0 : decide (0 ≤ x11_2) = true := decide_eq_true c26
              clear c26
              have HC28 := Aside0.mk H
              clear H
              have p27 : 0 ≤ (x11_2 : Int) := of_decide_eq_true (by first | (with_reducible assumption) | assumption)
              have q27 : x11_2 < (a0.size : Int) := of_decide_eq_true (by first | (with_reducible assumption) | assumption)
              have hx27 := bt_at a0 x11_2
              replace p27 := eq_true p27
              replace q27 := eq_true q27
              go_upto_region 15 with (fail)
              go_cut [67] (fun v67 wc => ∃ (kq : Nat) (x67_27 : Bool), v67 = .bool x67_27 ∧ Aside0 (gantletref05_Get.j2 kq a0 a1 x10_2 x11_2 (wrap64 (bt a0 x11_2)) x67_27 0 0 false 0 (wrap64 (Int.tdiv (wrap64 (bt a0 a1)) 64)) x129001_2 ((Int.tmod (wrap64 (Int.tdiv (wrap64 (bt a0 a1)) 32)) 2) == 1) 0 = some (r1, r2, r3, r4, r5, r6)) ∧ Aside0 (kq ≤ k2) ∧ Aside0 (wc.heap[gb126]? = some (.cells #[.int .i64 x127000_2, .int .i64 x127001_2, .bool x127002_2, .int .i64 x127003_2] 34 (0, 0))) ∧ Aside0 (wc.heap[gb127]? = some (.cells #[.int .i64 0, .int .i64 0, .bool false, .int .i64 0] 34 (0, 0))) ∧ Aside0 (wc.heap[gb128]? = some (.cells #[.int .i64 (wrap64 (Int.tdiv (wrap64 (bt a0 a1)) 64)), .int .i64 x129001_2, .bool ((Int.tmod (wrap64 (Int.tdiv (wrap64 (bt a0 a1)) 32)) 2) == 1), .int .i64 0] 34 (0, 0))) ∧ Aside0 (Below w.heap.size w wc))
              case first =>
               have H := HC28.out
               clear HC28
               by_cases c29 : x11_2 = (wrap64 (a1 + 1))
               ·
                rw [if_pos c29] at H
                have c29b0 : (x11_2 == (wrap64 (a1 + 1))) = true := beq_iff_eq.mpr c29
                have c29b1 : (x11_2 != (wrap64 (a1 + 1))) = false := bne_eq_false_iff_eq.mpr c29
                clear c29
                (first | rw [c29b0] | (simp only [i64_w, i32_w]; rw [c29b0]) | skip)
                have H' := Aside0.mk H
                clear H
                go_wp2
                go_meet
                case rel => exact ⟨_, (((wrap64 (bt a0 x11_2)) == 128)), (by first | rfl | (simp; done) | (simp [*]; done) | (simp [show ∀ l : List UInt8, (!l.isEmpty) = (l != []) from fun l => by cases l <;> rfl]; done)), H', ⟨by have := HJ2.out; have := HK2.out; first | omega | exact Nat.le_refl _⟩, ⟨by (with_reducible repeat (first | refine blk_drewN ?_ _ | refine blk_drew ?_ | refine blk_alloc ?_ _)); exact BK126.out⟩, ⟨by (with_reducible repeat (first | refine blk_drewN ?_ _ | refine blk_drew ?_ | refine blk_alloc ?_ _)); exact BK127.out⟩, ⟨by (with_reducible repeat (first | refine blk_drewN ?_ _ | refine blk_drew ?_ | refine blk_alloc ?_ _)); exact BK128.out⟩, ⟨by repeat (first | (with_reducible first | exact HB.out | apply below_alloc | apply pw_below_drewN | apply below_drew1 | refine below_set ?_ GE126.out | refine below_set ?_ GE127.out | refine below_set ?_ GE128.out) | exact HB.out)⟩⟩
               ·
                rw [if_neg c29] at H
                have c29b0 : (x11_2 == (wrap64 (a1 + 1))) = false := beq_eq_false_iff_ne.mpr c29
                have c29b1 : (x11_2 != (wrap64 (a1 + 1))) = true := bne_iff_ne.mpr c29
                (first | rw [c29b0] | (simp only [i64_w, i32_w]; rw [c29b0]) | skip)
                have H' := Aside0.mk H
                clear H
                go_wp2
                go_meet
                case rel => exact ⟨_, (false), (by first | rfl | (simp; done) | (simp [*]; done) | (simp [show ∀ l : List UInt8, (!l.isEmpty) = (l != []) from fun l => by cases l <;> rfl]; done)), H', ⟨by have := HJ2.out; have := HK2.out; first | omega | exact Nat.le_refl _⟩, ⟨by (with_reducible repeat (first | refine blk_drewN ?_ _ | refine blk_drew ?_ | refine blk_alloc ?_ _)); exact BK126.out⟩, ⟨by (with_reducible repeat (first | refine blk_drewN ?_ _ | refine blk_drew ?_ | refine blk_alloc ?_ _)); exact BK127.out⟩, ⟨by (with_reducible repeat (first | refine blk_drewN ?_ _ | refine blk_drew ?_ | refine blk_alloc ?_ _)); exact BK128.out⟩, ⟨by repeat (first | (with_reducible first | exact HB.out | apply below_alloc | apply pw_below_drewN | apply below_drew1 | refine below_set ?_ GE126.out | refine below_set ?_ GE127.out | refine below_set ?_ GE128.out) | exact HB.out)⟩⟩
              case rest =>
               clear HC28
               try clear c1
               try clear p1
               try clear q1
               try clear hx1
               try clear c2
               try clear p2
               try clear q2
               try clear hx2
               try clear c4
               try clear c6
               try clear p6
               try clear c8
               try clear c8b0
               try clear c9
               try clear c10
               try clear c13
               try clear c13b0
               try clear c13b1
               try clear c14
               try clear c17
               try clear c17b0
               try clear c18
               try clear c18b0
               try clear p19
               try clear q19
               try clear hx19
               try clear c20
               try clear c20b0
               try clear c20b1
               try clear c22
               try clear c23
               try clear c25
               try clear c25b0
               try clear c26
               try clear c26b0
               try clear p27
               try clear q27
               try clear hx27
               try clear c29
               try clear c29b0
               try clear c29b1
               try clear hcz11_0
               try clear hcz11_1
               try clear hcz11_2
               try clear hcz11_3
               try clear hcz12_0
               try clear hcz12_1
               try clear hcz12_2
               try clear hcz12_3
               try clear hcz15_0
               try clear hcz15_1
               try clear hcz15_2
               try clear hcz15_3
               try clear hcz16_0
               try clear hcz16_1
               try clear hcz16_2
               try clear hcz16_3
               try clear hcz24_0
               try clear hcz24_1
               try clear hcz24_2
               try clear hcz24_3
               try clear hcz7_0
               try clear hcz7_1
               try clear hcz7_2
               try clear hcz7_3
               try clear hfz11_0
               try clear hfz11_1
               try clear hfz11_2
               try clear hfz11_3
               try clear hfz12_0
               try clear hfz12_1
               try clear hfz12_2
               try clear hfz12_3
               try clear hfz15_0
               try clear hfz15_1
               try clear hfz15_2
               try clear hfz15_3
               try clear hfz16_0
               try clear hfz16_1
               try clear hfz16_2
               try clear hfz16_3
               try clear hfz24_0
               try clear hfz24_1
               try clear hfz24_2
               try clear hfz24_3
               try clear hfz7_0
               try clear hfz7_1
               try clear hfz7_2
               try clear hfz7_3
               try clear p1
               try clear p19
               try clear p2
               try clear p27
               try clear p6
               try clear q1
               try clear q19
               try clear q27
               obtain ⟨kq, x67_27, rfl, HA, HJ27, BK126, BK127, BK128, HB⟩ := hcut
               cases kq with
               | zero => exact absurd HA.out (by simp [gantletref05_Get.j2])
               | succ kj27 =>
                 have H := HA.out
                 clear HA
                 simp only [gantletref05_Get.j2] at H
                 by_cases c30 : x67_27 = true
                 ·
                  subst c30
                  have H1 : (some (0, 0, false, 0, x11_2, 3)) = some (r1, r2, r3, r4, r5, r6) := by rw [if_pos rfl] at H; exact H
                  clear H
                  have H := H1
                  clear H1
                  simp only [Option.some.injEq, Prod.mk.injEq] at H
                  obtain ⟨rfl, rfl, rfl, rfl, rfl, rfl⟩ := H
                  have hnb31 := NB127_126.out
                  have hnc31 := NB126_127.out
                  have hnb32 := NB127_128.out
                  have hnc32 := NB128_127.out
                  have hcz33_0 : wc.cell? ⟨gb127, 0, none⟩ = some (.int .i64 0) := (blk_cell BK127.out 0).trans rfl
                  have hcz33_1 : wc.cell? ⟨gb127, 1, none⟩ = some (.int .i64 0) := (blk_cell BK127.out 1).trans rfl
                  have hcz33_2 : wc.cell? ⟨gb127, 2, none⟩ = some (.bool false) := (blk_cell BK127.out 2).trans rfl
                  have hcz33_3 : wc.cell? ⟨gb127, 3, none⟩ = some (.int .i64 0) := (blk_cell BK127.out 3).trans rfl
                  have hfz33_0 := blk_frozen BK127.out 0
                  have hfz33_1 := blk_frozen BK127.out 1
                  have hfz33_2 := blk_frozen BK127.out 2
                  have hfz33_3 := blk_frozen BK127.out 3
                  have hnb34 := NB126_128.out
                  have hnc34 := NB128_126.out
                  have hcz35_0 : wc.cell? ⟨gb126, 0, none⟩ = some (.int .i64 x127000_2) := (blk_cell BK126.out 0).trans rfl
                  have hcz35_1 : wc.cell? ⟨gb126, 1, none⟩ = some (.int .i64 x127001_2) := (blk_cell BK126.out 1).trans rfl
                  have hcz35_2 : wc.cell? ⟨gb126, 2, none⟩ = some (.bool x127002_2) := (blk_cell BK126.out 2).trans rfl
                  have hcz35_3 : wc.cell? ⟨gb126, 3, none⟩ = some (.int .i64 x127003_2) := (blk_cell BK126.out 3).trans rfl
                  have hfz35_0 := blk_frozen BK126.out 0
                  have hfz35_1 := blk_frozen BK126.out 1
                  have hfz35_2 := blk_frozen BK126.out 2
                  have hfz35_3 := blk_frozen BK126.out 3
                  go_wp2
                  refine bodyPost_ret (results_ctt rfl _ _ gb126 34 #[.int .i64 0, .int .i64 0, .bool false, .int .i64 0] (0, 0) _ rfl (by (with_reducible repeat (first | refine blk_drewN ?_ _ | refine blk_drew ?_ | refine blk_alloc ?_ _)); refine blk_put (cs := #[.int .i64 0, .int .i64 0, .bool false, .int .i64 x127003_2]) ?_ 3 _ rfl; (with_reducible repeat (first | refine blk_drewN ?_ _ | refine blk_drew ?_ | refine blk_alloc ?_ _)); refine blk_put (cs := #[.int .i64 0, .int .i64 0, .bool x127002_2, .int .i64 x127003_2]) ?_ 2 _ rfl; (with_reducible repeat (first | refine blk_drewN ?_ _ | refine blk_drew ?_ | refine blk_alloc ?_ _)); refine blk_put (cs := #[.int .i64 0, .int .i64 x127001_2, .bool x127002_2, .int .i64 x127003_2]) ?_ 1 _ rfl; (with_reducible repeat (first | refine blk_drewN ?_ _ | refine blk_drew ?_ | refine blk_alloc ?_ _)); refine blk_put (cs := #[.int .i64 x127000_2, .int .i64 x127001_2, .bool x127002_2, .int .i64 x127003_2]) ?_ 0 _ rfl; (with_reducible repeat (first | refine blk_drewN ?_ _ | refine blk_drew ?_ | refine blk_alloc ?_ _)); exact BK126.out) Try.underlying34 rfl (by kernel_rfl)) rfl ?_
                  exact ⟨by first | rfl | (simp [errW_none, errW_some] <;> rfl) | (simp [*, errW_none, errW_some] <;> rfl), by repeat (first | (with_reducible first | exact HB.out | apply below_alloc | apply pw_below_drewN | apply below_drew1 | refine below_set ?_ GE126.out | refine below_set ?_ GE127.out | refine below_set ?_ GE128.out) | exact HB.out)⟩
                 ·
                  replace c30 := Bool.eq_false_iff.mpr c30
                  subst c30
                  have H1 : (if (wrap64 ((wrap64 (128 * x10_2)) + (Int.tmod (wrap64 (bt a0 x11_2)) 128))) > 268435455 then (some (0, 0, false, 0, x11_2, 3)) else (if (wrap64 (bt a0 x11_2)) < 128 then (if (wrap64 ((wrap64 (128 * x10_2)) + (Int.tmod (wrap64 (bt a0 x11_2)) 128))) < 31 then (some (0, 0, false, 0, x11_2, 3)) else (some ((wrap64 (Int.tdiv (wrap64 (bt a0 a1)) 64)), wrap64 ((wrap64 (128 * x10_2)) + (Int.tmod (wrap64 (bt a0 x11_2)) 128)), ((Int.tmod (wrap64 (Int.tdiv (wrap64 (bt a0 a1)) 32)) 2) == 1), 0, wrap64 (x11_2 + 1), 0))) else (gantletref05_Get.l0 kj27 a0 a1 (wrap64 ((wrap64 (128 * x10_2)) + (Int.tmod (wrap64 (bt a0 x11_2)) 128))) (wrap64 (x11_2 + 1)) 0 0 false 0 (wrap64 (Int.tdiv (wrap64 (bt a0 a1)) 64)) x129001_2 ((Int.tmod (wrap64 (Int.tdiv (wrap64 (bt a0 a1)) 32)) 2) == 1) 0))) = some (r1, r2, r3, r4, r5, r6) := by rw [if_neg (show ¬ (false = true) by decide)] at H; exact H
                  clear H
                  have H := H1
                  clear H1
                  by_cases c36 : (wrap64 ((wrap64 (128 * x10_2)) + (Int.tmod (wrap64 (bt a0 x11_2)) 128))) > 268435455
                  ·
                   rw [if_pos c36] at H
                   have c36b0 : decide (268435455 < (wrap64 ((wrap64 (128 * x10_2)) + (Int.tmod (wrap64 (bt a0 x11_2)) 128)))) = true := decide_eq_true c36
                   clear c36
                   simp only [Option.some.injEq, Prod.mk.injEq] at H
                   obtain ⟨rfl, rfl, rfl, rfl, rfl, rfl⟩ := H
                   have hnb37 := NB127_126.out
                   have hnc37 := NB126_127.out
                   have hnb38 := NB127_128.out
                   have hnc38 := NB128_127.out
                   have hcz39_0 : wc.cell? ⟨gb127, 0, none⟩ = some (.int .i64 0) := (blk_cell BK127.out 0).trans rfl
                   have hcz39_1 : wc.cell? ⟨gb127, 1, none⟩ = some (.int .i64 0) := (blk_cell BK127.out 1).trans rfl
                   have hcz39_2 : wc.cell? ⟨gb127, 2, none⟩ = some (.bool false) := (blk_cell BK127.out 2).trans rfl
                   have hcz39_3 : wc.cell? ⟨gb127, 3, none⟩ = some (.int .i64 0) := (blk_cell BK127.out 3).trans rfl
                   have hfz39_0 := blk_frozen BK127.out 0
                   have hfz39_1 := blk_frozen BK127.out 1
                   have hfz39_2 := blk_frozen BK127.out 2
                   have hfz39_3 := blk_frozen BK127.out 3
                   have hnb40 := NB126_128.out
                   have hnc40 := NB128_126.out
                   have hcz41_0 : wc.cell? ⟨gb126, 0, none⟩ = some (.int .i64 x127000_2) := (blk_cell BK126.out 0).trans rfl
                   have hcz41_1 : wc.cell? ⟨gb126, 1, none⟩ = some (.int .i64 x127001_2) := (blk_cell BK126.out 1).trans rfl
                   have hcz41_2 : wc.cell? ⟨gb126, 2, none⟩ = some (.bool x127002_2) := (blk_cell BK126.out 2).trans rfl
                   have hcz41_3 : wc.cell? ⟨gb126, 3, none⟩ = some (.int .i64 x127003_2) := (blk_cell BK126.out 3).trans rfl
                   have hfz41_0 := blk_frozen BK126.out 0
                   have hfz41_1 := blk_frozen BK126.out 1
                   have hfz41_2 := blk_frozen BK126.out 2
                   have hfz41_3 := blk_frozen BK126.out 3
                   go_wp2
                   refine bodyPost_ret (results_ctt rfl _ _ gb126 34 #[.int .i64 0, .int .i64 0, .bool false, .int .i64 0] (0, 0) _ rfl (by (with_reducible repeat (first | refine blk_drewN ?_ _ | refine blk_drew ?_ | refine blk_alloc ?_ _)); refine blk_put (cs := #[.int .i64 0, .int .i64 0, .bool false, .int .i64 x127003_2]) ?_ 3 _ rfl; (with_reducible repeat (first | refine blk_drewN ?_ _ | refine blk_drew ?_ | refine blk_alloc ?_ _)); refine blk_put (cs := #[.int .i64 0, .int .i64 0, .bool x127002_2, .int .i64 x127003_2]) ?_ 2 _ rfl; (with_reducible repeat (first | refine blk_drewN ?_ _ | refine blk_drew ?_ | refine blk_alloc ?_ _)); refine blk_put (cs := #[.int .i64 0, .int .i64 x127001_2, .bool x127002_2, .int .i64 x127003_2]) ?_ 1 _ rfl; (with_reducible repeat (first | refine blk_drewN ?_ _ | refine blk_drew ?_ | refine blk_alloc ?_ _)); refine blk_put (cs := #[.int .i64 x127000_2, .int .i64 x127001_2, .bool x127002_2, .int .i64 x127003_2]) ?_ 0 _ rfl; (with_reducible repeat (first | refine blk_drewN ?_ _ | refine blk_drew ?_ | refine blk_alloc ?_ _)); exact BK126.out) Try.underlying34 rfl (by kernel_rfl)) rfl ?_
                   exact ⟨by first | rfl | (simp [errW_none, errW_some] <;> rfl) | (simp [*, errW_none, errW_some] <;> rfl), by repeat (first | (with_reducible first | exact HB.out | apply below_alloc | apply pw_below_drewN | apply below_drew1 | refine below_set ?_ GE126.out | refine below_set ?_ GE127.out | refine below_set ?_ GE128.out) | exact HB.out)⟩
                  ·
                   rw [if_neg c36] at H
                   have c36b0 : decide (268435455 < (wrap64 ((wrap64 (128 * x10_2)) + (Int.tmod (wrap64 (bt a0 x11_2)) 128)))) = false := decide_eq_false c36
                   clear c36
                   by_cases c42 : (wrap64 (bt a0 x11_2)) < 128
                   ·
                    rw [if_pos c42] at H
                    have c42b0 : decide ((wrap64 (bt a0 x11_2)) < 128) = true := decide_eq_true c42
                    clear c42
                    by_cases c43 : (wrap64 ((wrap64 (128 * x10_2)) + (Int.tmod (wrap64 (bt a0 x11_2)) 128))) < 31
                    ·
                     rw [if_pos c43] at H
                     have c43b0 : decide ((wrap64 ((wrap64 (128 * x10_2)) + (Int.tmod (wrap64 (bt a0 x11_2)) 128))) < 31) = true := decide_eq_true c43
                     clear c43
                     simp only [Option.some.injEq, Prod.mk.injEq] at H
                     obtain ⟨rfl, rfl, rfl, rfl, rfl, rfl⟩ := H
                     have hnb44 := NB127_126.out
                     have hnc44 := NB126_127.out
                     have hnb45 := NB127_128.out
                     have hnc45 := NB128_127.out
                     have hcz46_0 : wc.cell? ⟨gb127, 0, none⟩ = some (.int .i64 0) := (blk_cell BK127.out 0).trans rfl
                     have hcz46_1 : wc.cell? ⟨gb127, 1, none⟩ = some (.int .i64 0) := (blk_cell BK127.out 1).trans rfl
                     have hcz46_2 : wc.cell? ⟨gb127, 2, none⟩ = some (.bool false) := (blk_cell BK127.out 2).trans rfl
                     have hcz46_3 : wc.cell? ⟨gb127, 3, none⟩ = some (.int .i64 0) := (blk_cell BK127.out 3).trans rfl
                     have hfz46_0 := blk_frozen BK127.out 0
                     have hfz46_1 := blk_frozen BK127.out 1
                     have hfz46_2 := blk_frozen BK127.out 2
                     have hfz46_3 := blk_frozen BK127.out 3
                     have hnb47 := NB126_128.out
                     have hnc47 := NB128_126.out
                     have hcz48_0 : wc.cell? ⟨gb126, 0, none⟩ = some (.int .i64 x127000_2) := (blk_cell BK126.out 0).trans rfl
                     have hcz48_1 : wc.cell? ⟨gb126, 1, none⟩ = some (.int .i64 x127001_2) := (blk_cell BK126.out 1).trans rfl
                     have hcz48_2 : wc.cell? ⟨gb126, 2, none⟩ = some (.bool x127002_2) := (blk_cell BK126.out 2).trans rfl
                     have hcz48_3 : wc.cell? ⟨gb126, 3, none⟩ = some (.int .i64 x127003_2) := (blk_cell BK126.out 3).trans rfl
                     have hfz48_0 := blk_frozen BK126.out 0
                     have hfz48_1 := blk_frozen BK126.out 1
                     have hfz48_2 := blk_frozen BK126.out 2
                     have hfz48_3 := blk_frozen BK126.out 3
                     go_wp2
                     refine bodyPost_ret (results_ctt rfl _ _ gb126 34 #[.int .i64 0, .int .i64 0, .bool false, .int .i64 0] (0, 0) _ rfl (by (with_reducible repeat (first | refine blk_drewN ?_ _ | refine blk_drew ?_ | refine blk_alloc ?_ _)); refine blk_put (cs := #[.int .i64 0, .int .i64 0, .bool false, .int .i64 x127003_2]) ?_ 3 _ rfl; (with_reducible repeat (first | refine blk_drewN ?_ _ | refine blk_drew ?_ | refine blk_alloc ?_ _)); refine blk_put (cs := #[.int .i64 0, .int .i64 0, .bool x127002_2, .int .i64 x127003_2]) ?_ 2 _ rfl; (with_reducible repeat (first | refine blk_drewN ?_ _ | refine blk_drew ?_ | refine blk_alloc ?_ _)); refine blk_put (cs := #[.int .i64 0, .int .i64 x127001_2, .bool x127002_2, .int .i64 x127003_2]) ?_ 1 _ rfl; (with_reducible repeat (first | refine blk_drewN ?_ _ | refine blk_drew ?_ | refine blk_alloc ?_ _)); refine blk_put (cs := #[.int .i64 x127000_2, .int .i64 x127001_2, .bool x127002_2, .int .i64 x127003_2]) ?_ 0 _ rfl; (with_reducible repeat (first | refine blk_drewN ?_ _ | refine blk_drew ?_ | refine blk_alloc ?_ _)); exact BK126.out) Try.underlying34 rfl (by kernel_rfl)) rfl ?_
                     exact ⟨by first | rfl | (simp [errW_none, errW_some] <;> rfl) | (simp [*, errW_none, errW_some] <;> rfl), by repeat (first | (with_reducible first | exact HB.out | apply below_alloc | apply pw_below_drewN | apply below_drew1 | refine below_set ?_ GE126.out | refine below_set ?_ GE127.out | refine below_set ?_ GE128.out) | exact HB.out)⟩
                    ·
                     rw [if_neg c43] at H
                     have c43b0 : decide ((wrap64 ((wrap64 (128 * x10_2)) + (Int.tmod (wrap64 (bt a0 x11_2)) 128))) < 31) = false := decide_eq_false c43
                     clear c43
                     simp only [Option.some.injEq, Prod.mk.injEq] at H
                     obtain ⟨rfl, rfl, rfl, rfl, rfl, rfl⟩ := H
                     have hnb49 := NB128_126.out
                     have hnc49 := NB126_128.out
                     have hnb50 := NB128_127.out
                     have hnc50 := NB127_128.out
                     have hcz51_0 : wc.cell? ⟨gb128, 0, none⟩ = some (.int .i64 (wrap64 (Int.tdiv (wrap64 (bt a0 a1)) 64))) := (blk_cell BK128.out 0).trans rfl
                     have hcz51_1 : wc.cell? ⟨gb128, 1, none⟩ = some (.int .i64 x129001_2) := (blk_cell BK128.out 1).trans rfl
                     have hcz51_2 : wc.cell? ⟨gb128, 2, none⟩ = some (.bool ((Int.tmod (wrap64 (Int.tdiv (wrap64 (bt a0 a1)) 32)) 2) == 1)) := (blk_cell BK128.out 2).trans rfl
                     have hcz51_3 : wc.cell? ⟨gb128, 3, none⟩ = some (.int .i64 0) := (blk_cell BK128.out 3).trans rfl
                     have hfz51_0 := blk_frozen BK128.out 0
                     have hfz51_1 := blk_frozen BK128.out 1
                     have hfz51_2 := blk_frozen BK128.out 2
                     have hfz51_3 := blk_frozen BK128.out 3
                     have hnb52 := NB126_127.out
                     have hnc52 := NB127_126.out
                     have hcz53_0 : wc.cell? ⟨gb126, 0, none⟩ = some (.int .i64 x127000_2) := (blk_cell BK126.out 0).trans rfl
                     have hcz53_1 : wc.cell? ⟨gb126, 1, none⟩ = some (.int .i64 x127001_2) := (blk_cell BK126.out 1).trans rfl
                     have hcz53_2 : wc.cell? ⟨gb126, 2, none⟩ = some (.bool x127002_2) := (blk_cell BK126.out 2).trans rfl
                     have hcz53_3 : wc.cell? ⟨gb126, 3, none⟩ = some (.int .i64 x127003_2) := (blk_cell BK126.out 3).trans rfl
                     have hfz53_0 := blk_frozen BK126.out 0
                     have hfz53_1 := blk_frozen BK126.out 1
                     have hfz53_2 := blk_frozen BK126.out 2
                     have hfz53_3 := blk_frozen BK126.out 3
                     go_wp2
                     refine bodyPost_ret (results_ctt rfl _ _ gb126 34 #[.int .i64 (wrap64 (Int.tdiv (wrap64 (bt a0 a1)) 64)), .int .i64 (wrap64 ((wrap64 (128 * x10_2)) + (Int.tmod (wrap64 (bt a0 x11_2)) 128))), .bool ((Int.tmod (wrap64 (Int.tdiv (wrap64 (bt a0 a1)) 32)) 2) == 1), .int .i64 0] (0, 0) _ rfl (by (with_reducible repeat (first | refine blk_drewN ?_ _ | refine blk_drew ?_ | refine blk_alloc ?_ _)); refine blk_put (cs := #[.int .i64 (wrap64 (Int.tdiv (wrap64 (bt a0 a1)) 64)), .int .i64 (wrap64 ((wrap64 (128 * x10_2)) + (Int.tmod (wrap64 (bt a0 x11_2)) 128))), .bool ((Int.tmod (wrap64 (Int.tdiv (wrap64 (bt a0 a1)) 32)) 2) == 1), .int .i64 x127003_2]) ?_ 3 _ rfl; (with_reducible repeat (first | refine blk_drewN ?_ _ | refine blk_drew ?_ | refine blk_alloc ?_ _)); refine blk_put (cs := #[.int .i64 (wrap64 (Int.tdiv (wrap64 (bt a0 a1)) 64)), .int .i64 (wrap64 ((wrap64 (128 * x10_2)) + (Int.tmod (wrap64 (bt a0 x11_2)) 128))), .bool x127002_2, .int .i64 x127003_2]) ?_ 2 _ rfl; (with_reducible repeat (first | refine blk_drewN ?_ _ | refine blk_drew ?_ | refine blk_alloc ?_ _)); refine blk_put (cs := #[.int .i64 (wrap64 (Int.tdiv (wrap64 (bt a0 a1)) 64)), .int .i64 x127001_2, .bool x127002_2, .int .i64 x127003_2]) ?_ 1 _ rfl; (with_reducible repeat (first | refine blk_drewN ?_ _ | refine blk_drew ?_ | refine blk_alloc ?_ _)); refine blk_put (cs := #[.int .i64 x127000_2, .int .i64 x127001_2, .bool x127002_2, .int .i64 x127003_2]) ?_ 0 _ rfl; (with_reducible repeat (first | refine blk_drewN ?_ _ | refine blk_drew ?_ | refine blk_alloc ?_ _)); refine blk_far ?_ NB126_128.out _; (with_reducible repeat (first | refine blk_drewN ?_ _ | refine blk_drew ?_ | refine blk_alloc ?_ _)); exact BK126.out) Try.underlying34 rfl (by kernel_rfl)) rfl ?_
                     exact ⟨by first | rfl | (simp [errW_none, errW_some] <;> rfl) | (simp [*, errW_none, errW_some] <;> rfl), by repeat (first | (with_reducible first | exact HB.out | apply below_alloc | apply pw_below_drewN | apply below_drew1 | refine below_set ?_ GE126.out | refine below_set ?_ GE127.out | refine below_set ?_ GE128.out) | exact HB.out)⟩
                   ·
                    rw [if_neg c42] at H
                    have c42b0 : decide ((wrap64 (bt a0 x11_2)) < 128) = false := decide_eq_false c42
                    clear c42
                    have H' := Aside0.mk H
                    clear H
                    go_wp2
                    go_roundg kj27
                    case measure => have := HJ2.out; have := HK2.out; have := HJ27.out; omega
                    case rel => exact ⟨(wrap64 ((wrap64 (128 * x10_2)) + (Int.tmod (wrap64 (bt a0 x11_2)) 128))), (wrap64 (x11_2 + 1)), (x127000_2), (x127001_2), (x127002_2), (x127003_2), (x129001_2), (by first | rfl | (simp; done) | (simp [*]; done) | (simp [show ∀ l : List UInt8, (!l.isEmpty) = (l != []) from fun l => by cases l <;> rfl]; done)), (by first | rfl | (simp; done) | (simp [*]; done) | (simp [show ∀ l : List UInt8, (!l.isEmpty) = (l != []) from fun l => by cases l <;> rfl]; done)), H', ⟨by have := HJ2.out; have := HK2.out; have := HJ27.out; omega⟩, ⟨by (with_reducible repeat (first | refine blk_drewN ?_ _ | refine blk_drew ?_ | refine blk_alloc ?_ _)); exact BK126.out⟩, ⟨by (with_reducible repeat (first | refine blk_drewN ?_ _ | refine blk_drew ?_ | refine blk_alloc ?_ _)); exact BK127.out⟩, ⟨by (with_reducible repeat (first | refine blk_drewN ?_ _ | refine blk_drew ?_ | refine blk_alloc ?_ _)); exact BK128.out⟩, ⟨by repeat (first | (with_reducible first | exact HB.out | apply below_alloc | apply pw_below_drewN | apply below_drew1 | refine below_set ?_ GE126.out | refine below_set ?_ GE127.out | refine below_set ?_ GE128.out) | exact HB.out)⟩⟩
             ·
              rw [if_neg c26] at H
              exact absurd H (by simp)
            ·
             rw [if_neg c25] at H
             have c25b0 : decide (x11_2 < (a0.size : Int)) = false := decide_eq_false c25
             clear c25
             simp only [Option.some.injEq, Prod.mk.injEq] at H
             obtain ⟨rfl, rfl, rfl, rfl, rfl, rfl⟩ := H
             have hnb54 := NB127_126.out
             have hnc54 := NB126_127.out
             have hnb55 := NB127_128.out
             have hnc55 := NB128_127.out
             have hcz56_0 : wr.cell? ⟨gb127, 0, none⟩ = some (.int .i64 0) := (blk_cell BK127.out 0).trans rfl
             have hcz56_1 : wr.cell? ⟨gb127, 1, none⟩ = some (.int .i64 0) := (blk_cell BK127.out 1).trans rfl
             have hcz56_2 : wr.cell? ⟨gb127, 2, none⟩ = some (.bool false) := (blk_cell BK127.out 2).trans rfl
             have hcz56_3 : wr.cell? ⟨gb127, 3, none⟩ = some (.int .i64 0) := (blk_cell BK127.out 3).trans rfl
             have hfz56_0 := blk_frozen BK127.out 0
             have hfz56_1 := blk_frozen BK127.out 1
             have hfz56_2 := blk_frozen BK127.out 2
             have hfz56_3 := blk_frozen BK127.out 3
             have hnb57 := NB126_128.out
             have hnc57 := NB128_126.out
             have hcz58_0 : wr.cell? ⟨gb126, 0, none⟩ = some (.int .i64 x127000_2) := (blk_cell BK126.out 0).trans rfl
             have hcz58_1 : wr.cell? ⟨gb126, 1, none⟩ = some (.int .i64 x127001_2) := (blk_cell BK126.out 1).trans rfl
             have hcz58_2 : wr.cell? ⟨gb126, 2, none⟩ = some (.bool x127002_2) := (blk_cell BK126.out 2).trans rfl
             have hcz58_3 : wr.cell? ⟨gb126, 3, none⟩ = some (.int .i64 x127003_2) := (blk_cell BK126.out 3).trans rfl
             have hfz58_0 := blk_frozen BK126.out 0
             have hfz58_1 := blk_frozen BK126.out 1
             have hfz58_2 := blk_frozen BK126.out 2
             have hfz58_3 := blk_frozen BK126.out 3
             go_wp2
             refine bodyPost_ret (results_ctt rfl _ _ gb126 34 #[.int .i64 0, .int .i64 0, .bool false, .int .i64 0] (0, 0) _ rfl (by (with_reducible repeat (first | refine blk_drewN ?_ _ | refine blk_drew ?_ | refine blk_alloc ?_ _)); refine blk_put (cs := #[.int .i64 0, .int .i64 0, .bool false, .int .i64 x127003_2]) ?_ 3 _ rfl; (with_reducible repeat (first | refine blk_drewN ?_ _ | refine blk_drew ?_ | refine blk_alloc ?_ _)); refine blk_put (cs := #[.int .i64 0, .int .i64 0, .bool x127002_2, .int .i64 x127003_2]) ?_ 2 _ rfl; (with_reducible repeat (first | refine blk_drewN ?_ _ | refine blk_drew ?_ | refine blk_alloc ?_ _)); refine blk_put (cs := #[.int .i64 0, .int .i64 x127001_2, .bool x127002_2, .int .i64 x127003_2]) ?_ 1 _ rfl; (with_reducible repeat (first | refine blk_drewN ?_ _ | refine blk_drew ?_ | refine blk_alloc ?_ _)); refine blk_put (cs := #[.int .i64 x127000_2, .int .i64 x127001_2, .bool x127002_2, .int .i64 x127003_2]) ?_ 0 _ rfl; (with_reducible repeat (first | refine blk_drewN ?_ _ | refine blk_drew ?_ | refine blk_alloc ?_ _)); exact BK126.out) Try.underlying34 rfl (by kernel_rfl)) rfl ?_
             exact ⟨by first | rfl | (simp [errW_none, errW_some] <;> rfl) | (simp [*, errW_none, errW_some] <;> rfl), by repeat (first | (with_reducible first | exact HB.out | apply below_alloc | apply pw_below_drewN | apply below_drew1 | refine below_set ?_ GE126.out | refine below_set ?_ GE127.out | refine below_set ?_ GE128.out) | exact HB.out)⟩
        ·
         rw [if_neg c20] at H
         have c20b0 : ((Int.tmod (wrap64 (bt a0 a1)) 32) == 31) = false := beq_eq_false_iff_ne.mpr c20
         have c20b1 : ((Int.tmod (wrap64 (bt a0 a1)) 32) != 31) = true := bne_iff_ne.mpr c20
         simp only [Option.some.injEq, Prod.mk.injEq] at H
         obtain ⟨rfl, rfl, rfl, rfl, rfl, rfl⟩ := H
         have p19 : 0 ≤ (a1 : Int) := of_decide_eq_true (by first | (with_reducible assumption) | assumption)
         have q19 : a1 < (a0.size : Int) := of_decide_eq_true (by first | (with_reducible assumption) | assumption)
         have hx19 := bt_at a0 a1
         replace p19 := eq_true p19
         replace q19 := eq_true q19
         go_wp2_with (first | ((with_reducible refine gate_dst (N := 9) rfl ?_); (try (refine gate_guard (by rfl) ?_; dsimp only)); refine box_event ?hg (N := 9) ?hd (cs := #[.int .i64 0, .int .i64 0, .bool false, .int .i64 0]) (t := 34) ?hr ?_; (case hd => rfl); (case hg => rfl); (case hr => first | (go_simp; done) | (go_simp; rfl)); intro gb128 hg w59 hbox hb; have n0_ := Aside0.mk (blk_below (g := gb126) (o := .cells #[.int .i64 0, .int .i64 0, .bool false, .int .i64 0] 34 (0, 0)) (by (with_reducible repeat (first | refine blk_drewN ?_ _ | refine blk_drew ?_ | refine blk_alloc ?_ _)); exact BK126.out) hb); have n1_ := Aside0.mk (blk_below (g := gb127) (o := .cells #[.int .i64 0, .int .i64 0, .bool false, .int .i64 0] 34 (0, 0)) (by (with_reducible repeat (first | refine blk_drewN ?_ _ | refine blk_drew ?_ | refine blk_alloc ?_ _)); exact BK127.out) hb); have n2_ := Aside0.mk (below_step (by repeat (first | (with_reducible first | exact HB.out | apply below_alloc | apply pw_below_drewN | apply below_drew1 | refine below_set ?_ GE126.out | refine below_set ?_ GE127.out) | exact HB.out)) hb); have n3_ := Aside0.mk (hbox); have n4_ := Aside0.mk ((by rw [hg]; exact (below_size (by repeat (first | (with_reducible first | exact HB.out | apply below_alloc | apply pw_below_drewN | apply below_drew1 | refine below_set ?_ GE126.out | refine below_set ?_ GE127.out) | exact HB.out))) : w.heap.size ≤ gb128)); have n5_ := Aside0.mk ((by rw [hg]; exact (below_size (by repeat (first | (with_reducible first | exact HB.out | apply below_alloc | apply pw_below_drewN | apply below_drew1 | refine below_set ?_ GE126.out | refine below_set ?_ GE127.out) | exact HB.out))) : w.heap.size ≤ gb128)); have n6_ := Aside0.mk ((by rw [hg]; exact Nat.ne_of_lt (blk_lt (g := gb126) (o := .cells #[.int .i64 0, .int .i64 0, .bool false, .int .i64 0] 34 (0, 0)) (by (with_reducible repeat (first | refine blk_drewN ?_ _ | refine blk_drew ?_ | refine blk_alloc ?_ _)); exact BK126.out)) : gb126 ≠ gb128)); have n7_ := Aside0.mk ((by rw [hg]; exact Nat.ne_of_gt (blk_lt (g := gb126) (o := .cells #[.int .i64 0, .int .i64 0, .bool false, .int .i64 0] 34 (0, 0)) (by (with_reducible repeat (first | refine blk_drewN ?_ _ | refine blk_drew ?_ | refine blk_alloc ?_ _)); exact BK126.out)) : gb128 ≠ gb126)); have n8_ := Aside0.mk ((by rw [hg]; exact Nat.ne_of_lt (blk_lt (g := gb127) (o := .cells #[.int .i64 0, .int .i64 0, .bool false, .int .i64 0] 34 (0, 0)) (by (with_reducible repeat (first | refine blk_drewN ?_ _ | refine blk_drew ?_ | refine blk_alloc ?_ _)); exact BK127.out)) : gb127 ≠ gb128)); have n9_ := Aside0.mk ((by rw [hg]; exact Nat.ne_of_gt (blk_lt (g := gb127) (o := .cells #[.int .i64 0, .int .i64 0, .bool false, .int .i64 0] 34 (0, 0)) (by (with_reducible repeat (first | refine blk_drewN ?_ _ | refine blk_drew ?_ | refine blk_alloc ?_ _)); exact BK127.out)) : gb128 ≠ gb127)); clear BK126; clear BK127; clear HB; have BK126 := n0_; have BK127 := n1_; have HB := n2_; have BK128 := n3_; have GW128 := n4_; have GE128 := n5_; have NB126_128 := n6_; have NB128_126 := n7_; have NB127_128 := n8_; have NB128_127 := n9_; clear n0_ n1_ n2_ n3_ n4_ n5_ n6_ n7_ n8_ n9_; clear hb hbox hg; have hnb60 := NB128_126.out; have hnc60 := NB126_128.out; have hnb61 := NB128_127.out; have hnc61 := NB127_128.out; have hcz62_0 : w59.cell? ⟨gb128, 0, none⟩ = some (.int .i64 0) := (blk_cell BK128.out 0).trans rfl; have hcz62_1 : w59.cell? ⟨gb128, 1, none⟩ = some (.int .i64 0) := (blk_cell BK128.out 1).trans rfl; have hcz62_2 : w59.cell? ⟨gb128, 2, none⟩ = some (.bool false) := (blk_cell BK128.out 2).trans rfl; have hcz62_3 : w59.cell? ⟨gb128, 3, none⟩ = some (.int .i64 0) := (blk_cell BK128.out 3).trans rfl; have hfz62_0 := blk_frozen BK128.out 0; have hfz62_1 := blk_frozen BK128.out 1; have hfz62_2 := blk_frozen BK128.out 2; have hfz62_3 := blk_frozen BK128.out 3; have hnb63 := NB126_127.out; have hnc63 := NB127_126.out; have hcz64_0 : w59.cell? ⟨gb126, 0, none⟩ = some (.int .i64 0) := (blk_cell BK126.out 0).trans rfl; have hcz64_1 : w59.cell? ⟨gb126, 1, none⟩ = some (.int .i64 0) := (blk_cell BK126.out 1).trans rfl; have hcz64_2 : w59.cell? ⟨gb126, 2, none⟩ = some (.bool false) := (blk_cell BK126.out 2).trans rfl; have hcz64_3 : w59.cell? ⟨gb126, 3, none⟩ = some (.int .i64 0) := (blk_cell BK126.out 3).trans rfl; have hfz64_0 := blk_frozen BK126.out 0; have hfz64_1 := blk_frozen BK126.out 1; have hfz64_2 := blk_frozen BK126.out 2; have hfz64_3 := blk_frozen BK126.out 3))
         refine bodyPost_ret (results_ctt rfl _ _ gb126 34 #[.int .i64 (wrap64 (Int.tdiv (wrap64 (bt a0 a1)) 64)), .int .i64 (Int.tmod (wrap64 (bt a0 a1)) 32), .bool ((Int.tmod (wrap64 (Int.tdiv (wrap64 (bt a0 a1)) 32)) 2) == 1), .int .i64 0] (0, 0) _ rfl (by (with_reducible repeat (first | refine blk_drewN ?_ _ | refine blk_drew ?_ | refine blk_alloc ?_ _)); refine blk_put (cs := #[.int .i64 (wrap64 (Int.tdiv (wrap64 (bt a0 a1)) 64)), .int .i64 (Int.tmod (wrap64 (bt a0 a1)) 32), .bool ((Int.tmod (wrap64 (Int.tdiv (wrap64 (bt a0 a1)) 32)) 2) == 1), .int .i64 0]) ?_ 3 _ rfl; (with_reducible repeat (first | refine blk_drewN ?_ _ | refine blk_drew ?_ | refine blk_alloc ?_ _)); refine blk_put (cs := #[.int .i64 (wrap64 (Int.tdiv (wrap64 (bt a0 a1)) 64)), .int .i64 (Int.tmod (wrap64 (bt a0 a1)) 32), .bool false, .int .i64 0]) ?_ 2 _ rfl; (with_reducible repeat (first | refine blk_drewN ?_ _ | refine blk_drew ?_ | refine blk_alloc ?_ _)); refine blk_put (cs := #[.int .i64 (wrap64 (Int.tdiv (wrap64 (bt a0 a1)) 64)), .int .i64 0, .bool false, .int .i64 0]) ?_ 1 _ rfl; (with_reducible repeat (first | refine blk_drewN ?_ _ | refine blk_drew ?_ | refine blk_alloc ?_ _)); refine blk_put (cs := #[.int .i64 0, .int .i64 0, .bool false, .int .i64 0]) ?_ 0 _ rfl; (with_reducible repeat (first | refine blk_drewN ?_ _ | refine blk_drew ?_ | refine blk_alloc ?_ _)); refine blk_far ?_ NB126_128.out _; (with_reducible repeat (first | refine blk_drewN ?_ _ | refine blk_drew ?_ | refine blk_alloc ?_ _)); refine blk_far ?_ NB126_128.out _; (with_reducible repeat (first | refine blk_drewN ?_ _ | refine blk_drew ?_ | refine blk_alloc ?_ _)); refine blk_far ?_ NB126_128.out _; (with_reducible repeat (first | refine blk_drewN ?_ _ | refine blk_drew ?_ | refine blk_alloc ?_ _)); refine blk_far ?_ NB126_128.out _; (with_reducible repeat (first | refine blk_drewN ?_ _ | refine blk_drew ?_ | refine blk_alloc ?_ _)); exact BK126.out) Try.underlying34 rfl (by kernel_rfl)) rfl ?_
         exact ⟨by first | rfl | (simp [errW_none, errW_some] <;> rfl) | (simp [*, errW_none, errW_some] <;> rfl), by repeat (first | (with_reducible first | exact HB.out | apply below_alloc | apply pw_below_drewN | apply below_drew1 | refine below_set ?_ GE126.out | refine below_set ?_ GE127.out | refine below_set ?_ GE128.out) | exact HB.out)⟩
       ·
        rw [if_neg c18] at H
        exact absurd H (by simp)
      ·
       rw [if_neg c17] at H
       exact absurd H (by simp)

end Go.Proofs.Ytomaajagncjiiaa.PC
