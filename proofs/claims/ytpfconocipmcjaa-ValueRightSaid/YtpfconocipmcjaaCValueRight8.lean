/- What the row of ValueRight stands on, made small by a program of this session (pack.py). -/
import Derived.Test.YtpfconocipmcjaaCValueRight2
import Derived.Test.YtpfconocipmcjaaCValueRight4
namespace Go.Proofs.Ytpfconocipmcjaa.PC
open RowKit YtpfconocipmcjaaW.PrintWords YtpfconocipmcjaaW.PrintLast YtpfconocipmcjaaW.PrintMore
attribute [local go_sem] max2_int min2_int max_two min_two max_three min_three max_four min_four
set_option linter.unusedVariables false
set_option linter.unusedSimpArgs false
def text_Start.f (a0 : Int) (a1 : Int) : Option (Int × Int × Int × Int × Int × Bool) := if a1 < 0 then (some (0, 0, 0, 0, 0, false)) else (some (a0, a1, 0, 0, 0, true))
set_option maxHeartbeats 8000000 in
set_option maxRecDepth 100000 in
theorem text_Start.calls (a0 : Int) (a1 : Int) (r1 : Int) (r2 : Int) (r3 : Int) (r4 : Int) (r5 : Int) (r6 : Bool) (w : World) (h : text_Start.f a0 a1 = some (r1, r2, r3, r4, r5, r6)) :
 Calls Try.prog 54 #[.int .i64 a0, .int .i64 a1] w fun e w' => e = .returned (.tuple #[.agg #[.int .i64 r1, .int .i64 r2, .int .i64 r3, .int .u8 r4, .int .u8 r5], .bool r6]) ∧ Below w.heap.size w w' := by
 have hu101 := Try.underlying101
 have HB := Aside0.mk (Below.refl w.heap.size w)
 have H : (if a1 < 0 then (some (0, 0, 0, 0, 0, false)) else (some (a0, a1, 0, 0, 0, true))) = some (r1, r2, r3, r4, r5, r6) := h
 clear h
 by_cases c3 : a1 < 0
 ·
  rw [if_pos c3] at H
  have c3b0 : decide (a1 < 0) = true := decide_eq_true c3
  clear c3
  simp only [Option.some.injEq, Prod.mk.injEq] at H
  obtain ⟨rfl, rfl, rfl, rfl, rfl, rfl⟩ := H
  go_enter Try.func54, Try.ntmps54
  go_wp2_with (first | ((with_reducible refine gate_dst (N := 4) rfl ?_); refine zzbx (N := 4) (cs := #[.int .i64 0, .int .i64 0, .int .i64 0, .int .u8 0, .int .u8 0]) (t := 101) ?_; intro gb203 hg w4 hbox hb; have n0_ := Aside0.mk (below_step zz2 hb); have n1_ := Aside0.mk (hbox); have n2_ := Aside0.mk ((zz45 : w.heap.size ≤ gb203)); have n3_ := n2_; clear HB; have HB := n0_; have BK203 := n1_; have GW203 := n2_; have GE203 := n3_; clear n0_ n1_ n2_ n3_; clear hb hbox hg; have hcz5_0 : w4.cell? ⟨gb203, 0, none⟩ = some (.int .i64 0) := (blk_cell BK203.out 0).trans rfl; have hcz5_1 : w4.cell? ⟨gb203, 1, none⟩ = some (.int .i64 0) := (blk_cell BK203.out 1).trans rfl; have hcz5_2 : w4.cell? ⟨gb203, 2, none⟩ = some (.int .i64 0) := (blk_cell BK203.out 2).trans rfl; have hcz5_3 : w4.cell? ⟨gb203, 3, none⟩ = some (.int .u8 0) := (blk_cell BK203.out 3).trans rfl; have hcz5_4 : w4.cell? ⟨gb203, 4, none⟩ = some (.int .u8 0) := (blk_cell BK203.out 4).trans rfl; have hfz5_0 := blk_frozen BK203.out 0; have hfz5_1 := blk_frozen BK203.out 1; have hfz5_2 := blk_frozen BK203.out 2; have hfz5_3 := blk_frozen BK203.out 3; have hfz5_4 := blk_frozen BK203.out 4))
  refine bodyPost_ret (results_ct rfl _ _ gb203 101 #[.int .i64 0, .int .i64 0, .int .i64 0, .int .u8 0, .int .u8 0] (0, 0) _ rfl (by (with_reducible repeat (first | refine blk_drewN ?_ _ | refine blk_drew ?_ | refine blk_alloc ?_ _)); refine blk_put (cs := #[.int .i64 0, .int .i64 0, .int .i64 0, .int .u8 0, .int .u8 0]) ?_ 4 _ rfl; (with_reducible repeat (first | refine blk_drewN ?_ _ | refine blk_drew ?_ | refine blk_alloc ?_ _)); refine blk_put (cs := #[.int .i64 0, .int .i64 0, .int .i64 0, .int .u8 0, .int .u8 0]) ?_ 3 _ rfl; (with_reducible repeat (first | refine blk_drewN ?_ _ | refine blk_drew ?_ | refine blk_alloc ?_ _)); refine blk_put (cs := #[.int .i64 0, .int .i64 0, .int .i64 0, .int .u8 0, .int .u8 0]) ?_ 2 _ rfl; (with_reducible repeat (first | refine blk_drewN ?_ _ | refine blk_drew ?_ | refine blk_alloc ?_ _)); refine blk_put (cs := #[.int .i64 0, .int .i64 0, .int .i64 0, .int .u8 0, .int .u8 0]) ?_ 1 _ rfl; (with_reducible repeat (first | refine blk_drewN ?_ _ | refine blk_drew ?_ | refine blk_alloc ?_ _)); refine blk_put (cs := #[.int .i64 0, .int .i64 0, .int .i64 0, .int .u8 0, .int .u8 0]) ?_ 0 _ rfl; (with_reducible repeat (first | refine blk_drewN ?_ _ | refine blk_drew ?_ | refine blk_alloc ?_ _)); exact BK203.out) Try.underlying101 rfl zz12) rfl ?_
  exact ⟨zz6, by repeat (first | (with_reducible first | exact HB.out | apply below_alloc | apply pw_below_drewN | apply below_drew1 | refine below_set ?_ GE203.out) | exact HB.out)⟩
 ·
  rw [if_neg c3] at H
  have c3b0 : decide (a1 < 0) = false := decide_eq_false c3
  clear c3
  simp only [Option.some.injEq, Prod.mk.injEq] at H
  obtain ⟨rfl, rfl, rfl, rfl, rfl, rfl⟩ := H
  go_enter Try.func54, Try.ntmps54
  go_wp2_with (first | ((with_reducible refine gate_dst (N := 4) rfl ?_); refine zzbx (N := 4) (cs := #[.int .i64 0, .int .i64 0, .int .i64 0, .int .u8 0, .int .u8 0]) (t := 101) ?_; intro gb203 hg w6 hbox hb; have n0_ := Aside0.mk (below_step zz2 hb); have n1_ := Aside0.mk (hbox); have n2_ := Aside0.mk ((zz45 : w.heap.size ≤ gb203)); have n3_ := n2_; clear HB; have HB := n0_; have BK203 := n1_; have GW203 := n2_; have GE203 := n3_; clear n0_ n1_ n2_ n3_; clear hb hbox hg; have hcz7_0 : w6.cell? ⟨gb203, 0, none⟩ = some (.int .i64 0) := (blk_cell BK203.out 0).trans rfl; have hcz7_1 : w6.cell? ⟨gb203, 1, none⟩ = some (.int .i64 0) := (blk_cell BK203.out 1).trans rfl; have hcz7_2 : w6.cell? ⟨gb203, 2, none⟩ = some (.int .i64 0) := (blk_cell BK203.out 2).trans rfl; have hcz7_3 : w6.cell? ⟨gb203, 3, none⟩ = some (.int .u8 0) := (blk_cell BK203.out 3).trans rfl; have hcz7_4 : w6.cell? ⟨gb203, 4, none⟩ = some (.int .u8 0) := (blk_cell BK203.out 4).trans rfl; have hfz7_0 := blk_frozen BK203.out 0; have hfz7_1 := blk_frozen BK203.out 1; have hfz7_2 := blk_frozen BK203.out 2; have hfz7_3 := blk_frozen BK203.out 3; have hfz7_4 := blk_frozen BK203.out 4))
  refine bodyPost_ret (results_ct rfl _ _ gb203 101 #[.int .i64 a0, .int .i64 a1, .int .i64 0, .int .u8 0, .int .u8 0] (0, 0) _ rfl (by (with_reducible repeat (first | refine blk_drewN ?_ _ | refine blk_drew ?_ | refine blk_alloc ?_ _)); refine blk_put (cs := #[.int .i64 a0, .int .i64 a1, .int .i64 0, .int .u8 0, .int .u8 0]) ?_ 4 _ rfl; (with_reducible repeat (first | refine blk_drewN ?_ _ | refine blk_drew ?_ | refine blk_alloc ?_ _)); refine blk_put (cs := #[.int .i64 a0, .int .i64 a1, .int .i64 0, .int .u8 0, .int .u8 0]) ?_ 3 _ rfl; (with_reducible repeat (first | refine blk_drewN ?_ _ | refine blk_drew ?_ | refine blk_alloc ?_ _)); refine blk_put (cs := #[.int .i64 a0, .int .i64 a1, .int .i64 0, .int .u8 0, .int .u8 0]) ?_ 2 _ rfl; (with_reducible repeat (first | refine blk_drewN ?_ _ | refine blk_drew ?_ | refine blk_alloc ?_ _)); refine blk_put (cs := #[.int .i64 a0, .int .i64 0, .int .i64 0, .int .u8 0, .int .u8 0]) ?_ 1 _ rfl; (with_reducible repeat (first | refine blk_drewN ?_ _ | refine blk_drew ?_ | refine blk_alloc ?_ _)); refine blk_put (cs := #[.int .i64 0, .int .i64 0, .int .i64 0, .int .u8 0, .int .u8 0]) ?_ 0 _ rfl; (with_reducible repeat (first | refine blk_drewN ?_ _ | refine blk_drew ?_ | refine blk_alloc ?_ _)); exact BK203.out) Try.underlying101 rfl zz12) rfl ?_
  exact ⟨zz6, by repeat (first | (with_reducible first | exact HB.out | apply below_alloc | apply pw_below_drewN | apply below_drew1 | refine below_set ?_ GE203.out) | exact HB.out)⟩
def text_first.j0 : Nat → Int → Bool → Option (Int × Int × Int × Bool)
 | 0, _, _ => none
 | k + 1, x0, x9 => if x9 = true then (some (0, 0, 0, false)) else (if x0 < 224 then (some (1, 128, 191, true)) else (if x0 = 224 then (some (2, 160, 191, true)) else (if x0 = 237 then (some (2, 128, 159, true)) else (if x0 < 240 then (some (2, 128, 191, true)) else (if x0 = 240 then (some (3, 144, 191, true)) else (if x0 = 244 then (some (3, 128, 143, true)) else (some (3, 128, 191, true))))))))
def text_first.f (k : Nat) (a0 : Int) : Option (Int × Int × Int × Bool) := if a0 < 128 then (some (0, 128, 191, true)) else (if a0 < 194 then (text_first.j0 k a0 true) else (text_first.j0 k a0 (decide (a0 > 244))))
set_option maxHeartbeats 8000000 in
set_option maxRecDepth 100000 in
theorem text_first.calls (k : Nat) (a0 : Int) (r1 : Int) (r2 : Int) (r3 : Int) (r4 : Bool) (w : World) (h : text_first.f k a0 = some (r1, r2, r3, r4)) :
 Calls Try.prog 113 #[.int .u8 a0] w fun e w' => e = .returned (.tuple #[.int .i64 r1, .int .u8 r2, .int .u8 r3, .bool r4]) ∧ Drawn0 w w' := by
 have H : (if a0 < 128 then (some (0, 128, 191, true)) else (if a0 < 194 then (text_first.j0 k a0 true) else (text_first.j0 k a0 (decide (a0 > 244))))) = some (r1, r2, r3, r4) := h
 clear h
 by_cases c2 : a0 < 128
 ·
  rw [if_pos c2] at H
  have c2b0 : decide (a0 < 128) = true := decide_eq_true c2
  clear c2
  simp only [Option.some.injEq, Prod.mk.injEq] at H
  obtain ⟨rfl, rfl, rfl, rfl⟩ := H
  go_enter Try.func113, Try.ntmps113
  go_wp2
  refine bodyPost_ret (results_list (rs := [.tmp 2, .tmp 3, .tmp 4, .tmp 5]) rfl zz30 (.tmp (.tmp (.tmp (.tmp .nil))))) rfl ?_
  exact ⟨zz0, zz1⟩
 ·
  rw [if_neg c2] at H
  have c2b0 : decide (a0 < 128) = false := decide_eq_false c2
  clear c2
  have HC3 := Aside0.mk H
  clear H
  go_enter Try.func113, Try.ntmps113
  go_upto_region 3 with (fail)
  go_cut [9] (fun v9 wc => ∃ (kq : Nat) (x9_2 : Bool), v9 = .bool x9_2 ∧ Aside0 (text_first.j0 kq a0 x9_2 = some (r1, r2, r3, r4)) ∧ Aside0 (kq ≤ k) ∧ Drawn0 w wc)
  case first =>
   have H := HC3.out
   clear HC3
   by_cases c4 : a0 < 194
   ·
    rw [if_pos c4] at H
    have c4b0 : decide (a0 < 194) = true := decide_eq_true c4
    clear c4
    (first | rw [c4b0] | (simp only [i64_w, i32_w]; rw [c4b0]) | skip)
    have H' := Aside0.mk H
    clear H
    go_wp2
    go_meet
    case rel => exact ⟨_, (true), zz0, H', ⟨zz25⟩, zz1⟩
   ·
    rw [if_neg c4] at H
    have c4b0 : decide (a0 < 194) = false := decide_eq_false c4
    clear c4
    (first | rw [c4b0] | (simp only [i64_w, i32_w]; rw [c4b0]) | skip)
    have H' := Aside0.mk H
    clear H
    go_wp2
    go_meet
    case rel => exact ⟨_, (decide (a0 > 244)), zz0, H', ⟨zz25⟩, zz1⟩
  case rest =>
   clear HC3
   try clear c1
   try clear c2
   try clear c2b0
   try clear p2
   try clear c4
   try clear c4b0
   obtain ⟨kq, x9_2, rfl, HA, HJ2, ⟨mc2, rfl⟩⟩ := hcut
   cases kq with
   | zero => exact absurd HA.out (by simp [text_first.j0])
   | succ kj2 =>
     have H := HA.out
     clear HA
     simp only [text_first.j0] at H
     by_cases c5 : x9_2 = true
     ·
      subst c5
      rw [if_pos rfl] at H
      simp only [Option.some.injEq, Prod.mk.injEq] at H
      obtain ⟨rfl, rfl, rfl, rfl⟩ := H
      go_wp2
      refine bodyPost_ret (results_list (rs := [.tmp 2, .tmp 3, .tmp 4, .tmp 5]) rfl zz30 (.tmp (.tmp (.tmp (.tmp .nil))))) rfl ?_
      exact ⟨zz0, zz1⟩
     ·
      replace c5 := Bool.eq_false_iff.mpr c5
      subst c5
      rw [if_neg (show ¬ (false = true) by decide)] at H
      by_cases c6 : a0 < 224
      ·
       rw [if_pos c6] at H
       have c6b0 : decide (a0 < 224) = true := decide_eq_true c6
       clear c6
       simp only [Option.some.injEq, Prod.mk.injEq] at H
       obtain ⟨rfl, rfl, rfl, rfl⟩ := H
       go_wp2
       refine bodyPost_ret (results_list (rs := [.tmp 2, .tmp 3, .tmp 4, .tmp 5]) rfl zz30 (.tmp (.tmp (.tmp (.tmp .nil))))) rfl ?_
       exact ⟨zz0, zz1⟩
      ·
       rw [if_neg c6] at H
       have c6b0 : decide (a0 < 224) = false := decide_eq_false c6
       clear c6
       by_cases c7 : a0 = 224
       ·
        rw [if_pos c7] at H
        have c7b0 : (a0 == 224) = true := beq_iff_eq.mpr c7
        have c7b1 : (a0 != 224) = false := bne_eq_false_iff_eq.mpr c7
        clear c7
        simp only [Option.some.injEq, Prod.mk.injEq] at H
        obtain ⟨rfl, rfl, rfl, rfl⟩ := H
        go_wp2
        refine bodyPost_ret (results_list (rs := [.tmp 2, .tmp 3, .tmp 4, .tmp 5]) rfl zz30 (.tmp (.tmp (.tmp (.tmp .nil))))) rfl ?_
        exact ⟨zz0, zz1⟩
       ·
        rw [if_neg c7] at H
        have c7b0 : (a0 == 224) = false := beq_eq_false_iff_ne.mpr c7
        have c7b1 : (a0 != 224) = true := bne_iff_ne.mpr c7
        by_cases c8 : a0 = 237
        ·
         rw [if_pos c8] at H
         have c8b0 : (a0 == 237) = true := beq_iff_eq.mpr c8
         have c8b1 : (a0 != 237) = false := bne_eq_false_iff_eq.mpr c8
         clear c8
         simp only [Option.some.injEq, Prod.mk.injEq] at H
         obtain ⟨rfl, rfl, rfl, rfl⟩ := H
         go_wp2
         refine bodyPost_ret (results_list (rs := [.tmp 2, .tmp 3, .tmp 4, .tmp 5]) rfl zz30 (.tmp (.tmp (.tmp (.tmp .nil))))) rfl ?_
         exact ⟨zz0, zz1⟩
        ·
         rw [if_neg c8] at H
         have c8b0 : (a0 == 237) = false := beq_eq_false_iff_ne.mpr c8
         have c8b1 : (a0 != 237) = true := bne_iff_ne.mpr c8
         by_cases c9 : a0 < 240
         ·
          rw [if_pos c9] at H
          have c9b0 : decide (a0 < 240) = true := decide_eq_true c9
          clear c9
          simp only [Option.some.injEq, Prod.mk.injEq] at H
          obtain ⟨rfl, rfl, rfl, rfl⟩ := H
          go_wp2
          refine bodyPost_ret (results_list (rs := [.tmp 2, .tmp 3, .tmp 4, .tmp 5]) rfl zz30 (.tmp (.tmp (.tmp (.tmp .nil))))) rfl ?_
          exact ⟨zz0, zz1⟩
         ·
          rw [if_neg c9] at H
          have c9b0 : decide (a0 < 240) = false := decide_eq_false c9
          clear c9
          by_cases c10 : a0 = 240
          ·
           rw [if_pos c10] at H
           have c10b0 : (a0 == 240) = true := beq_iff_eq.mpr c10
           have c10b1 : (a0 != 240) = false := bne_eq_false_iff_eq.mpr c10
           clear c10
           simp only [Option.some.injEq, Prod.mk.injEq] at H
           obtain ⟨rfl, rfl, rfl, rfl⟩ := H
           go_wp2
           refine bodyPost_ret (results_list (rs := [.tmp 2, .tmp 3, .tmp 4, .tmp 5]) rfl zz30 (.tmp (.tmp (.tmp (.tmp .nil))))) rfl ?_
           exact ⟨zz0, zz1⟩
          ·
           rw [if_neg c10] at H
           have c10b0 : (a0 == 240) = false := beq_eq_false_iff_ne.mpr c10
           have c10b1 : (a0 != 240) = true := bne_iff_ne.mpr c10
           by_cases c11 : a0 = 244
           ·
            rw [if_pos c11] at H
            have c11b0 : (a0 == 244) = true := beq_iff_eq.mpr c11
            have c11b1 : (a0 != 244) = false := bne_eq_false_iff_eq.mpr c11
            clear c11
            simp only [Option.some.injEq, Prod.mk.injEq] at H
            obtain ⟨rfl, rfl, rfl, rfl⟩ := H
            go_wp2
            refine bodyPost_ret (results_list (rs := [.tmp 2, .tmp 3, .tmp 4, .tmp 5]) rfl zz30 (.tmp (.tmp (.tmp (.tmp .nil))))) rfl ?_
            exact ⟨zz0, zz1⟩
           ·
            rw [if_neg c11] at H
            have c11b0 : (a0 == 244) = false := beq_eq_false_iff_ne.mpr c11
            have c11b1 : (a0 != 244) = true := bne_iff_ne.mpr c11
            simp only [Option.some.injEq, Prod.mk.injEq] at H
            obtain ⟨rfl, rfl, rfl, rfl⟩ := H
            go_wp2
            refine bodyPost_ret (results_list (rs := [.tmp 2, .tmp 3, .tmp 4, .tmp 5]) rfl zz30 (.tmp (.tmp (.tmp (.tmp .nil))))) rfl ?_
            exact ⟨zz0, zz1⟩
end Go.Proofs.Ytpfconocipmcjaa.PC
namespace Go.Proofs.Ytpfconocipmcjaa.PC
open RowKit YtpfconocipmcjaaW.PrintWords YtpfconocipmcjaaW.PrintLast YtpfconocipmcjaaW.PrintMore
attribute [local go_sem] max2_int min2_int max_two min_two max_three min_three max_four min_four
set_option linter.unusedVariables false
set_option linter.unusedSimpArgs false
def text_State_utf8.j0 : Nat → Bool → Int → Int → Int → Int → Int → Option (Int × Int × Int × Int × Int × Bool)
 | 0, _, _, _, _, _, _ => none
 | k + 1, x19, x205000, x205001, x205002, x205003, x205004 => if x19 = true then (some (0, 0, 0, 0, 0, false)) else (some (x205000, x205001, wrap64 (x205002 - 1), 128, 191, true))
def text_State_utf8.f (k : Nat) (a0_0 : Int) (a0_1 : Int) (a0_2 : Int) (a0_3 : Int) (a0_4 : Int) (a1 : Int) : Option (Int × Int × Int × Int × Int × Bool) := if a0_2 > 0 then (if a1 < a0_3 then (text_State_utf8.j0 k true a0_0 a0_1 a0_2 a0_3 a0_4) else (text_State_utf8.j0 k (decide (a1 > a0_4)) a0_0 a0_1 a0_2 a0_3 a0_4)) else ((text_first.f k a1).bind fun bt206 => (if bt206.2.2.2 = true then (if bt206.1 > a0_1 then (some (0, 0, 0, 0, 0, false)) else (some (a0_0, a0_1, bt206.1, bt206.2.1, bt206.2.2.1, true))) else (some (0, 0, 0, 0, 0, false))))
set_option maxHeartbeats 8000000 in
set_option maxRecDepth 100000 in
theorem text_State_utf8.calls (k : Nat) (a0_0 : Int) (a0_1 : Int) (a0_2 : Int) (a0_3 : Int) (a0_4 : Int) (a1 : Int) (r1 : Int) (r2 : Int) (r3 : Int) (r4 : Int) (r5 : Int) (r6 : Bool) (w : World) (h : text_State_utf8.f k a0_0 a0_1 a0_2 a0_3 a0_4 a1 = some (r1, r2, r3, r4, r5, r6)) :
 Calls Try.prog 111 #[.agg #[.int .i64 a0_0, .int .i64 a0_1, .int .i64 a0_2, .int .u8 a0_3, .int .u8 a0_4], .int .u8 a1] w fun e w' => e = .returned (.tuple #[.agg #[.int .i64 r1, .int .i64 r2, .int .i64 r3, .int .u8 r4, .int .u8 r5], .bool r6]) ∧ Below w.heap.size w w' := by
 have hu101 := Try.underlying101
 have HB := Aside0.mk (Below.refl w.heap.size w)
 have H : (if a0_2 > 0 then (if a1 < a0_3 then (text_State_utf8.j0 k true a0_0 a0_1 a0_2 a0_3 a0_4) else (text_State_utf8.j0 k (decide (a1 > a0_4)) a0_0 a0_1 a0_2 a0_3 a0_4)) else ((text_first.f k a1).bind fun bt206 => (if bt206.2.2.2 = true then (if bt206.1 > a0_1 then (some (0, 0, 0, 0, 0, false)) else (some (a0_0, a0_1, bt206.1, bt206.2.1, bt206.2.2.1, true))) else (some (0, 0, 0, 0, 0, false))))) = some (r1, r2, r3, r4, r5, r6) := h
 clear h
 by_cases c3 : a0_2 > 0
 ·
  rw [if_pos c3] at H
  have c3b0 : decide (0 < a0_2) = true := decide_eq_true c3
  clear c3
  have HC4 := Aside0.mk H
  clear H
  go_enter Try.func111, Try.ntmps111
  go_upto_region 2 with (first | ((with_reducible refine gate_dst (N := 2) rfl ?_); refine zzbx (N := 2) (cs := #[.int .i64 a0_0, .int .i64 a0_1, .int .i64 a0_2, .int .u8 a0_3, .int .u8 a0_4]) (t := 101) ?_; intro gb204 hg w5 hbox hb; have n0_ := Aside0.mk (below_step zz2 hb); have n1_ := Aside0.mk (hbox); have n2_ := Aside0.mk ((zz45 : w.heap.size ≤ gb204)); have n3_ := n2_; clear HB; have HB := n0_; have BK204 := n1_; have GW204 := n2_; have GE204 := n3_; clear n0_ n1_ n2_ n3_; clear hb hbox hg) | ((with_reducible refine gate_dst (N := 4) rfl ?_); refine zzbx (N := 4) (cs := #[.int .i64 0, .int .i64 0, .int .i64 0, .int .u8 0, .int .u8 0]) (t := 101) ?_; intro gb205 hg w6 hbox hb; have n0_ := Aside0.mk (blk_below (g := gb204) (o := .cells #[.int .i64 a0_0, .int .i64 a0_1, .int .i64 a0_2, .int .u8 a0_3, .int .u8 a0_4] 101 (0, 0)) zz15 hb); have n1_ := Aside0.mk (below_step zz29 hb); have n2_ := Aside0.mk (hbox); have n3_ := Aside0.mk ((by rw [hg]; exact (below_size zz29) : w.heap.size ≤ gb205)); have n4_ := n3_; have n5_ := Aside0.mk ((zz42 : gb204 ≠ gb205)); have n6_ := Aside0.mk ((zz43 : gb205 ≠ gb204)); clear BK204; clear HB; have BK204 := n0_; have HB := n1_; have BK205 := n2_; have GW205 := n3_; have GE205 := n4_; have NB204_205 := n5_; have NB205_204 := n6_; clear n0_ n1_ n2_ n3_ n4_ n5_ n6_; clear hb hbox hg; have hnb7 := NB204_205.out; have hnc7 := NB205_204.out; have hcz8_0 : w6.cell? ⟨gb204, 0, none⟩ = some (.int .i64 a0_0) := (blk_cell BK204.out 0).trans rfl; have hcz8_1 : w6.cell? ⟨gb204, 1, none⟩ = some (.int .i64 a0_1) := (blk_cell BK204.out 1).trans rfl; have hcz8_2 : w6.cell? ⟨gb204, 2, none⟩ = some (.int .i64 a0_2) := (blk_cell BK204.out 2).trans rfl; have hcz8_3 : w6.cell? ⟨gb204, 3, none⟩ = some (.int .u8 a0_3) := (blk_cell BK204.out 3).trans rfl; have hcz8_4 : w6.cell? ⟨gb204, 4, none⟩ = some (.int .u8 a0_4) := (blk_cell BK204.out 4).trans rfl; have hfz8_0 := blk_frozen BK204.out 0; have hfz8_1 := blk_frozen BK204.out 1; have hfz8_2 := blk_frozen BK204.out 2; have hfz8_3 := blk_frozen BK204.out 3; have hfz8_4 := blk_frozen BK204.out 4))
  (try simp only [Act.put, List.setIfInBounds_toArray, List.set_cons_zero, List.set_cons_succ])
  go_cut [19] (fun v19 wc => ∃ (kq : Nat) (x19_3 : Bool), v19 = .bool x19_3 ∧ Aside0 (text_State_utf8.j0 kq x19_3 a0_0 a0_1 a0_2 a0_3 a0_4 = some (r1, r2, r3, r4, r5, r6)) ∧ Aside0 (kq ≤ k) ∧ Aside0 (wc.heap[gb204]? = some (.cells #[.int .i64 a0_0, .int .i64 a0_1, .int .i64 a0_2, .int .u8 a0_3, .int .u8 a0_4] 101 (0, 0))) ∧ Aside0 (wc.heap[gb205]? = some (.cells #[.int .i64 0, .int .i64 0, .int .i64 0, .int .u8 0, .int .u8 0] 101 (0, 0))) ∧ Aside0 (Below w.heap.size w wc))
  case first =>
   have H := HC4.out
   clear HC4
   by_cases c9 : a1 < a0_3
   ·
    rw [if_pos c9] at H
    have c9b0 : decide (a1 < a0_3) = true := decide_eq_true c9
    clear c9
    (first | rw [c9b0] | (simp only [i64_w, i32_w]; rw [c9b0]) | skip)
    have H' := Aside0.mk H
    clear H
    have hnb10 := NB204_205.out
    have hnc10 := NB205_204.out
    have hcz11_0 : w6.cell? ⟨gb204, 0, none⟩ = some (.int .i64 a0_0) := (blk_cell BK204.out 0).trans rfl
    have hcz11_1 : w6.cell? ⟨gb204, 1, none⟩ = some (.int .i64 a0_1) := (blk_cell BK204.out 1).trans rfl
    have hcz11_2 : w6.cell? ⟨gb204, 2, none⟩ = some (.int .i64 a0_2) := (blk_cell BK204.out 2).trans rfl
    have hcz11_3 : w6.cell? ⟨gb204, 3, none⟩ = some (.int .u8 a0_3) := (blk_cell BK204.out 3).trans rfl
    have hcz11_4 : w6.cell? ⟨gb204, 4, none⟩ = some (.int .u8 a0_4) := (blk_cell BK204.out 4).trans rfl
    have hfz11_0 := blk_frozen BK204.out 0
    have hfz11_1 := blk_frozen BK204.out 1
    have hfz11_2 := blk_frozen BK204.out 2
    have hfz11_3 := blk_frozen BK204.out 3
    have hfz11_4 := blk_frozen BK204.out 4
    go_wp2
    go_meet
    case rel => exact ⟨_, (true), zz0, H', ⟨zz25⟩, ⟨zz15⟩, ⟨zz44⟩, ⟨zz18⟩⟩
   ·
    rw [if_neg c9] at H
    have c9b0 : decide (a1 < a0_3) = false := decide_eq_false c9
    clear c9
    (first | rw [c9b0] | (simp only [i64_w, i32_w]; rw [c9b0]) | skip)
    have H' := Aside0.mk H
    clear H
    have hnb12 := NB204_205.out
    have hnc12 := NB205_204.out
    have hcz13_0 : w6.cell? ⟨gb204, 0, none⟩ = some (.int .i64 a0_0) := (blk_cell BK204.out 0).trans rfl
    have hcz13_1 : w6.cell? ⟨gb204, 1, none⟩ = some (.int .i64 a0_1) := (blk_cell BK204.out 1).trans rfl
    have hcz13_2 : w6.cell? ⟨gb204, 2, none⟩ = some (.int .i64 a0_2) := (blk_cell BK204.out 2).trans rfl
    have hcz13_3 : w6.cell? ⟨gb204, 3, none⟩ = some (.int .u8 a0_3) := (blk_cell BK204.out 3).trans rfl
    have hcz13_4 : w6.cell? ⟨gb204, 4, none⟩ = some (.int .u8 a0_4) := (blk_cell BK204.out 4).trans rfl
    have hfz13_0 := blk_frozen BK204.out 0
    have hfz13_1 := blk_frozen BK204.out 1
    have hfz13_2 := blk_frozen BK204.out 2
    have hfz13_3 := blk_frozen BK204.out 3
    have hfz13_4 := blk_frozen BK204.out 4
    go_wp2
    go_meet
    case rel => exact ⟨_, (decide (a1 > a0_4)), zz0, H', ⟨zz25⟩, ⟨zz15⟩, ⟨zz44⟩, ⟨zz18⟩⟩
  case rest =>
   clear HC4
   try clear c1
   try clear p2
   try clear c3
   try clear c3b0
   try clear c7
   try clear c9
   try clear c9b0
   try clear c10
   try clear c11
   try clear c12
   try clear hcz11_0
   try clear hcz11_1
   try clear hcz11_2
   try clear hcz11_3
   try clear hcz11_4
   try clear hcz13_0
   try clear hcz13_1
   try clear hcz13_2
   try clear hcz13_3
   try clear hcz13_4
   try clear hcz8_0
   try clear hcz8_1
   try clear hcz8_2
   try clear hcz8_3
   try clear hcz8_4
   try clear hfz11_0
   try clear hfz11_1
   try clear hfz11_2
   try clear hfz11_3
   try clear hfz11_4
   try clear hfz13_0
   try clear hfz13_1
   try clear hfz13_2
   try clear hfz13_3
   try clear hfz13_4
   try clear hfz8_0
   try clear hfz8_1
   try clear hfz8_2
   try clear hfz8_3
   try clear hfz8_4
   obtain ⟨kq, x19_3, rfl, HA, HJ3, BK204, BK205, HB⟩ := hcut
   cases kq with
   | zero => exact absurd HA.out (by simp [text_State_utf8.j0])
   | succ kj3 =>
     have H := HA.out
     clear HA
     simp only [text_State_utf8.j0] at H
     by_cases c14 : x19_3 = true
     ·
      subst c14
      rw [if_pos rfl] at H
      simp only [Option.some.injEq, Prod.mk.injEq] at H
      obtain ⟨rfl, rfl, rfl, rfl, rfl, rfl⟩ := H
      have hnb15 := NB205_204.out
      have hnc15 := NB204_205.out
      have hcz16_0 : wc.cell? ⟨gb205, 0, none⟩ = some (.int .i64 0) := (blk_cell BK205.out 0).trans rfl
      have hcz16_1 : wc.cell? ⟨gb205, 1, none⟩ = some (.int .i64 0) := (blk_cell BK205.out 1).trans rfl
      have hcz16_2 : wc.cell? ⟨gb205, 2, none⟩ = some (.int .i64 0) := (blk_cell BK205.out 2).trans rfl
      have hcz16_3 : wc.cell? ⟨gb205, 3, none⟩ = some (.int .u8 0) := (blk_cell BK205.out 3).trans rfl
      have hcz16_4 : wc.cell? ⟨gb205, 4, none⟩ = some (.int .u8 0) := (blk_cell BK205.out 4).trans rfl
      have hfz16_0 := blk_frozen BK205.out 0
      have hfz16_1 := blk_frozen BK205.out 1
      have hfz16_2 := blk_frozen BK205.out 2
      have hfz16_3 := blk_frozen BK205.out 3
      have hfz16_4 := blk_frozen BK205.out 4
      go_wp2
      refine bodyPost_ret (results_ct rfl _ _ gb205 101 #[.int .i64 0, .int .i64 0, .int .i64 0, .int .u8 0, .int .u8 0] (0, 0) _ rfl (by (with_reducible repeat (first | refine blk_drewN ?_ _ | refine blk_drew ?_ | refine blk_alloc ?_ _)); refine blk_put (cs := #[.int .i64 0, .int .i64 0, .int .i64 0, .int .u8 0, .int .u8 0]) ?_ 4 _ rfl; (with_reducible repeat (first | refine blk_drewN ?_ _ | refine blk_drew ?_ | refine blk_alloc ?_ _)); refine blk_put (cs := #[.int .i64 0, .int .i64 0, .int .i64 0, .int .u8 0, .int .u8 0]) ?_ 3 _ rfl; (with_reducible repeat (first | refine blk_drewN ?_ _ | refine blk_drew ?_ | refine blk_alloc ?_ _)); refine blk_put (cs := #[.int .i64 0, .int .i64 0, .int .i64 0, .int .u8 0, .int .u8 0]) ?_ 2 _ rfl; (with_reducible repeat (first | refine blk_drewN ?_ _ | refine blk_drew ?_ | refine blk_alloc ?_ _)); refine blk_put (cs := #[.int .i64 0, .int .i64 0, .int .i64 0, .int .u8 0, .int .u8 0]) ?_ 1 _ rfl; (with_reducible repeat (first | refine blk_drewN ?_ _ | refine blk_drew ?_ | refine blk_alloc ?_ _)); refine blk_put (cs := #[.int .i64 0, .int .i64 0, .int .i64 0, .int .u8 0, .int .u8 0]) ?_ 0 _ rfl; (with_reducible repeat (first | refine blk_drewN ?_ _ | refine blk_drew ?_ | refine blk_alloc ?_ _)); exact BK205.out) Try.underlying101 rfl zz12) rfl ?_
      exact ⟨zz6, zz18⟩
     ·
      replace c14 := Bool.eq_false_iff.mpr c14
      subst c14
      rw [if_neg (show ¬ (false = true) by decide)] at H
      simp only [Option.some.injEq, Prod.mk.injEq] at H
      obtain ⟨rfl, rfl, rfl, rfl, rfl, rfl⟩ := H
      have hnb17 := NB204_205.out
      have hnc17 := NB205_204.out
      have hcz18_0 : wc.cell? ⟨gb204, 0, none⟩ = some (.int .i64 a0_0) := (blk_cell BK204.out 0).trans rfl
      have hcz18_1 : wc.cell? ⟨gb204, 1, none⟩ = some (.int .i64 a0_1) := (blk_cell BK204.out 1).trans rfl
      have hcz18_2 : wc.cell? ⟨gb204, 2, none⟩ = some (.int .i64 a0_2) := (blk_cell BK204.out 2).trans rfl
      have hcz18_3 : wc.cell? ⟨gb204, 3, none⟩ = some (.int .u8 a0_3) := (blk_cell BK204.out 3).trans rfl
      have hcz18_4 : wc.cell? ⟨gb204, 4, none⟩ = some (.int .u8 a0_4) := (blk_cell BK204.out 4).trans rfl
      have hfz18_0 := blk_frozen BK204.out 0
      have hfz18_1 := blk_frozen BK204.out 1
      have hfz18_2 := blk_frozen BK204.out 2
      have hfz18_3 := blk_frozen BK204.out 3
      have hfz18_4 := blk_frozen BK204.out 4
      have hcz19_0 : wc.cell? ⟨gb205, 0, none⟩ = some (.int .i64 0) := (blk_cell BK205.out 0).trans rfl
      have hcz19_1 : wc.cell? ⟨gb205, 1, none⟩ = some (.int .i64 0) := (blk_cell BK205.out 1).trans rfl
      have hcz19_2 : wc.cell? ⟨gb205, 2, none⟩ = some (.int .i64 0) := (blk_cell BK205.out 2).trans rfl
      have hcz19_3 : wc.cell? ⟨gb205, 3, none⟩ = some (.int .u8 0) := (blk_cell BK205.out 3).trans rfl
      have hcz19_4 : wc.cell? ⟨gb205, 4, none⟩ = some (.int .u8 0) := (blk_cell BK205.out 4).trans rfl
      have hfz19_0 := blk_frozen BK205.out 0
      have hfz19_1 := blk_frozen BK205.out 1
      have hfz19_2 := blk_frozen BK205.out 2
      have hfz19_3 := blk_frozen BK205.out 3
      have hfz19_4 := blk_frozen BK205.out 4
      go_wp2
      refine bodyPost_ret (results_ct rfl _ _ gb205 101 #[.int .i64 a0_0, .int .i64 a0_1, .int .i64 (wrap64 (a0_2 - 1)), .int .u8 128, .int .u8 191] (0, 0) _ rfl (by (with_reducible repeat (first | refine blk_drewN ?_ _ | refine blk_drew ?_ | refine blk_alloc ?_ _)); refine blk_put (cs := #[.int .i64 a0_0, .int .i64 a0_1, .int .i64 (wrap64 (a0_2 - 1)), .int .u8 128, .int .u8 0]) ?_ 4 _ rfl; (with_reducible repeat (first | refine blk_drewN ?_ _ | refine blk_drew ?_ | refine blk_alloc ?_ _)); refine blk_put (cs := #[.int .i64 a0_0, .int .i64 a0_1, .int .i64 (wrap64 (a0_2 - 1)), .int .u8 0, .int .u8 0]) ?_ 3 _ rfl; (with_reducible repeat (first | refine blk_drewN ?_ _ | refine blk_drew ?_ | refine blk_alloc ?_ _)); refine blk_put (cs := #[.int .i64 a0_0, .int .i64 a0_1, .int .i64 0, .int .u8 0, .int .u8 0]) ?_ 2 _ rfl; (with_reducible repeat (first | refine blk_drewN ?_ _ | refine blk_drew ?_ | refine blk_alloc ?_ _)); refine blk_put (cs := #[.int .i64 a0_0, .int .i64 0, .int .i64 0, .int .u8 0, .int .u8 0]) ?_ 1 _ rfl; (with_reducible repeat (first | refine blk_drewN ?_ _ | refine blk_drew ?_ | refine blk_alloc ?_ _)); refine blk_put (cs := #[.int .i64 0, .int .i64 0, .int .i64 0, .int .u8 0, .int .u8 0]) ?_ 0 _ rfl; (with_reducible repeat (first | refine blk_drewN ?_ _ | refine blk_drew ?_ | refine blk_alloc ?_ _)); refine blk_far ?_ NB205_204.out _; (with_reducible repeat (first | refine blk_drewN ?_ _ | refine blk_drew ?_ | refine blk_alloc ?_ _)); refine blk_far ?_ NB205_204.out _; (with_reducible repeat (first | refine blk_drewN ?_ _ | refine blk_drew ?_ | refine blk_alloc ?_ _)); refine blk_far ?_ NB205_204.out _; (with_reducible repeat (first | refine blk_drewN ?_ _ | refine blk_drew ?_ | refine blk_alloc ?_ _)); exact BK205.out) Try.underlying101 rfl zz12) rfl ?_
      exact ⟨zz6, zz18⟩
 ·
  rw [if_neg c3] at H
  have c3b0 : decide (0 < a0_2) = false := decide_eq_false c3
  clear c3
  replace H := Option.bind_eq_some_iff.mp H
  obtain ⟨⟨t206, t207, t208, t209⟩, A200, H⟩ := H
  replace H : (if t209 = true then (if t206 > a0_1 then (some (0, 0, 0, 0, 0, false)) else (some (a0_0, a0_1, t206, t207, t208, true))) else (some (0, 0, 0, 0, 0, false))) = some (r1, r2, r3, r4, r5, r6) := H
  have A20 := Aside0.mk A200
  clear A200
  by_cases c21 : t209 = true
  ·
   subst c21
   rw [if_pos rfl] at H
   by_cases c22 : t206 > a0_1
   ·
    rw [if_pos c22] at H
    have c22b0 : decide (a0_1 < t206) = true := decide_eq_true c22
    clear c22
    simp only [Option.some.injEq, Prod.mk.injEq] at H
    obtain ⟨rfl, rfl, rfl, rfl, rfl, rfl⟩ := H
    go_enter Try.func111, Try.ntmps111
    go_wp2_with (first | ((with_reducible refine gate_dst (N := 2) rfl ?_); refine zzbx (N := 2) (cs := #[.int .i64 a0_0, .int .i64 a0_1, .int .i64 a0_2, .int .u8 a0_3, .int .u8 a0_4]) (t := 101) ?_; intro gb204 hg w23 hbox hb; have n0_ := Aside0.mk (below_step zz2 hb); have n1_ := Aside0.mk (hbox); have n2_ := Aside0.mk ((zz45 : w.heap.size ≤ gb204)); have n3_ := n2_; clear HB; have HB := n0_; have BK204 := n1_; have GW204 := n2_; have GE204 := n3_; clear n0_ n1_ n2_ n3_; clear hb hbox hg) | ((with_reducible refine gate_dst (N := 4) rfl ?_); refine zzbx (N := 4) (cs := #[.int .i64 0, .int .i64 0, .int .i64 0, .int .u8 0, .int .u8 0]) (t := 101) ?_; intro gb205 hg w24 hbox hb; have n0_ := Aside0.mk (blk_below (g := gb204) (o := .cells #[.int .i64 a0_0, .int .i64 a0_1, .int .i64 a0_2, .int .u8 a0_3, .int .u8 a0_4] 101 (0, 0)) zz15 hb); have n1_ := Aside0.mk (below_step zz29 hb); have n2_ := Aside0.mk (hbox); have n3_ := Aside0.mk ((by rw [hg]; exact (below_size zz29) : w.heap.size ≤ gb205)); have n4_ := n3_; have n5_ := Aside0.mk ((zz42 : gb204 ≠ gb205)); have n6_ := Aside0.mk ((zz43 : gb205 ≠ gb204)); clear BK204; clear HB; have BK204 := n0_; have HB := n1_; have BK205 := n2_; have GW205 := n3_; have GE205 := n4_; have NB204_205 := n5_; have NB205_204 := n6_; clear n0_ n1_ n2_ n3_ n4_ n5_ n6_; clear hb hbox hg; have hnb25 := NB204_205.out; have hnc25 := NB205_204.out; have hcz26_0 : w24.cell? ⟨gb204, 0, none⟩ = some (.int .i64 a0_0) := (blk_cell BK204.out 0).trans rfl; have hcz26_1 : w24.cell? ⟨gb204, 1, none⟩ = some (.int .i64 a0_1) := (blk_cell BK204.out 1).trans rfl; have hcz26_2 : w24.cell? ⟨gb204, 2, none⟩ = some (.int .i64 a0_2) := (blk_cell BK204.out 2).trans rfl; have hcz26_3 : w24.cell? ⟨gb204, 3, none⟩ = some (.int .u8 a0_3) := (blk_cell BK204.out 3).trans rfl; have hcz26_4 : w24.cell? ⟨gb204, 4, none⟩ = some (.int .u8 a0_4) := (blk_cell BK204.out 4).trans rfl; have hfz26_0 := blk_frozen BK204.out 0; have hfz26_1 := blk_frozen BK204.out 1; have hfz26_2 := blk_frozen BK204.out 2; have hfz26_3 := blk_frozen BK204.out 3; have hfz26_4 := blk_frozen BK204.out 4) | ((with_reducible refine gate_callee (f := 113) rfl ?_); refine goesL_ (some 30) rfl rfl Try.func113 zz12 rfl #[.int .u8 a1] rfl zz5 ?_; (with_reducible refine (text_first.calls k a1 t206 t207 t208 true _ A20.out).mono ?_); rintro e w' ⟨rfl, ⟨nd, rfl⟩⟩; refine ⟨_, rfl, ?_⟩; (try (rw [drewN_self w24]; generalize hq_ : World.drewN w24 _ = w24; have n0_ : Aside0 (w24.heap[gb204]? = some (.cells #[.int .i64 a0_0, .int .i64 a0_1, .int .i64 a0_2, .int .u8 a0_3, .int .u8 a0_4] 101 (0, 0))) := ⟨by rw [← hq_]; exact zz15⟩; have n1_ : Aside0 (w24.heap[gb205]? = some (.cells #[.int .i64 0, .int .i64 0, .int .i64 0, .int .u8 0, .int .u8 0] 101 (0, 0))) := ⟨by rw [← hq_]; exact zz44⟩; have n2_ : Aside0 (Below w.heap.size w w24) := ⟨by rw [← hq_]; exact zz18⟩; clear BK204 BK205 HB hq_; have BK204 := n0_; have BK205 := n1_; have HB := n2_; clear n0_ n1_ n2_)); have hcz27_0 : w24.cell? ⟨gb204, 0, none⟩ = some (.int .i64 a0_0) := (blk_cell BK204.out 0).trans rfl; have hcz27_1 : w24.cell? ⟨gb204, 1, none⟩ = some (.int .i64 a0_1) := (blk_cell BK204.out 1).trans rfl; have hcz27_2 : w24.cell? ⟨gb204, 2, none⟩ = some (.int .i64 a0_2) := (blk_cell BK204.out 2).trans rfl; have hcz27_3 : w24.cell? ⟨gb204, 3, none⟩ = some (.int .u8 a0_3) := (blk_cell BK204.out 3).trans rfl; have hcz27_4 : w24.cell? ⟨gb204, 4, none⟩ = some (.int .u8 a0_4) := (blk_cell BK204.out 4).trans rfl; have hfz27_0 := blk_frozen BK204.out 0; have hfz27_1 := blk_frozen BK204.out 1; have hfz27_2 := blk_frozen BK204.out 2; have hfz27_3 := blk_frozen BK204.out 3; have hfz27_4 := blk_frozen BK204.out 4; have hcz28_0 : w24.cell? ⟨gb205, 0, none⟩ = some (.int .i64 0) := (blk_cell BK205.out 0).trans rfl; have hcz28_1 : w24.cell? ⟨gb205, 1, none⟩ = some (.int .i64 0) := (blk_cell BK205.out 1).trans rfl; have hcz28_2 : w24.cell? ⟨gb205, 2, none⟩ = some (.int .i64 0) := (blk_cell BK205.out 2).trans rfl; have hcz28_3 : w24.cell? ⟨gb205, 3, none⟩ = some (.int .u8 0) := (blk_cell BK205.out 3).trans rfl; have hcz28_4 : w24.cell? ⟨gb205, 4, none⟩ = some (.int .u8 0) := (blk_cell BK205.out 4).trans rfl; have hfz28_0 := blk_frozen BK205.out 0; have hfz28_1 := blk_frozen BK205.out 1; have hfz28_2 := blk_frozen BK205.out 2; have hfz28_3 := blk_frozen BK205.out 3; have hfz28_4 := blk_frozen BK205.out 4))
    refine bodyPost_ret (results_ct rfl _ _ gb205 101 #[.int .i64 0, .int .i64 0, .int .i64 0, .int .u8 0, .int .u8 0] (0, 0) _ rfl (by (with_reducible repeat (first | refine blk_drewN ?_ _ | refine blk_drew ?_ | refine blk_alloc ?_ _)); refine blk_put (cs := #[.int .i64 0, .int .i64 0, .int .i64 0, .int .u8 0, .int .u8 0]) ?_ 4 _ rfl; (with_reducible repeat (first | refine blk_drewN ?_ _ | refine blk_drew ?_ | refine blk_alloc ?_ _)); refine blk_put (cs := #[.int .i64 0, .int .i64 0, .int .i64 0, .int .u8 0, .int .u8 0]) ?_ 3 _ rfl; (with_reducible repeat (first | refine blk_drewN ?_ _ | refine blk_drew ?_ | refine blk_alloc ?_ _)); refine blk_put (cs := #[.int .i64 0, .int .i64 0, .int .i64 0, .int .u8 0, .int .u8 0]) ?_ 2 _ rfl; (with_reducible repeat (first | refine blk_drewN ?_ _ | refine blk_drew ?_ | refine blk_alloc ?_ _)); refine blk_put (cs := #[.int .i64 0, .int .i64 0, .int .i64 0, .int .u8 0, .int .u8 0]) ?_ 1 _ rfl; (with_reducible repeat (first | refine blk_drewN ?_ _ | refine blk_drew ?_ | refine blk_alloc ?_ _)); refine blk_put (cs := #[.int .i64 0, .int .i64 0, .int .i64 0, .int .u8 0, .int .u8 0]) ?_ 0 _ rfl; (with_reducible repeat (first | refine blk_drewN ?_ _ | refine blk_drew ?_ | refine blk_alloc ?_ _)); refine blk_far ?_ NB205_204.out _; (with_reducible repeat (first | refine blk_drewN ?_ _ | refine blk_drew ?_ | refine blk_alloc ?_ _)); refine blk_far ?_ NB205_204.out _; (with_reducible repeat (first | refine blk_drewN ?_ _ | refine blk_drew ?_ | refine blk_alloc ?_ _)); refine blk_far ?_ NB205_204.out _; (with_reducible repeat (first | refine blk_drewN ?_ _ | refine blk_drew ?_ | refine blk_alloc ?_ _)); exact BK205.out) Try.underlying101 rfl zz12) rfl ?_
    exact ⟨zz6, zz18⟩
   ·
    rw [if_neg c22] at H
    have c22b0 : decide (a0_1 < t206) = false := decide_eq_false c22
    clear c22
    simp only [Option.some.injEq, Prod.mk.injEq] at H
    obtain ⟨rfl, rfl, rfl, rfl, rfl, rfl⟩ := H
    go_enter Try.func111, Try.ntmps111
    go_wp2_with (first | ((with_reducible refine gate_dst (N := 2) rfl ?_); refine zzbx (N := 2) (cs := #[.int .i64 a0_0, .int .i64 a0_1, .int .i64 a0_2, .int .u8 a0_3, .int .u8 a0_4]) (t := 101) ?_; intro gb204 hg w29 hbox hb; have n0_ := Aside0.mk (below_step zz2 hb); have n1_ := Aside0.mk (hbox); have n2_ := Aside0.mk ((zz45 : w.heap.size ≤ gb204)); have n3_ := n2_; clear HB; have HB := n0_; have BK204 := n1_; have GW204 := n2_; have GE204 := n3_; clear n0_ n1_ n2_ n3_; clear hb hbox hg) | ((with_reducible refine gate_dst (N := 4) rfl ?_); refine zzbx (N := 4) (cs := #[.int .i64 0, .int .i64 0, .int .i64 0, .int .u8 0, .int .u8 0]) (t := 101) ?_; intro gb205 hg w30 hbox hb; have n0_ := Aside0.mk (blk_below (g := gb204) (o := .cells #[.int .i64 a0_0, .int .i64 a0_1, .int .i64 a0_2, .int .u8 a0_3, .int .u8 a0_4] 101 (0, 0)) zz15 hb); have n1_ := Aside0.mk (below_step zz29 hb); have n2_ := Aside0.mk (hbox); have n3_ := Aside0.mk ((by rw [hg]; exact (below_size zz29) : w.heap.size ≤ gb205)); have n4_ := n3_; have n5_ := Aside0.mk ((zz42 : gb204 ≠ gb205)); have n6_ := Aside0.mk ((zz43 : gb205 ≠ gb204)); clear BK204; clear HB; have BK204 := n0_; have HB := n1_; have BK205 := n2_; have GW205 := n3_; have GE205 := n4_; have NB204_205 := n5_; have NB205_204 := n6_; clear n0_ n1_ n2_ n3_ n4_ n5_ n6_; clear hb hbox hg; have hnb31 := NB204_205.out; have hnc31 := NB205_204.out; have hcz32_0 : w30.cell? ⟨gb204, 0, none⟩ = some (.int .i64 a0_0) := (blk_cell BK204.out 0).trans rfl; have hcz32_1 : w30.cell? ⟨gb204, 1, none⟩ = some (.int .i64 a0_1) := (blk_cell BK204.out 1).trans rfl; have hcz32_2 : w30.cell? ⟨gb204, 2, none⟩ = some (.int .i64 a0_2) := (blk_cell BK204.out 2).trans rfl; have hcz32_3 : w30.cell? ⟨gb204, 3, none⟩ = some (.int .u8 a0_3) := (blk_cell BK204.out 3).trans rfl; have hcz32_4 : w30.cell? ⟨gb204, 4, none⟩ = some (.int .u8 a0_4) := (blk_cell BK204.out 4).trans rfl; have hfz32_0 := blk_frozen BK204.out 0; have hfz32_1 := blk_frozen BK204.out 1; have hfz32_2 := blk_frozen BK204.out 2; have hfz32_3 := blk_frozen BK204.out 3; have hfz32_4 := blk_frozen BK204.out 4) | ((with_reducible refine gate_callee (f := 113) rfl ?_); refine goesL_ (some 30) rfl rfl Try.func113 zz12 rfl #[.int .u8 a1] rfl zz5 ?_; (with_reducible refine (text_first.calls k a1 t206 t207 t208 true _ A20.out).mono ?_); rintro e w' ⟨rfl, ⟨nd, rfl⟩⟩; refine ⟨_, rfl, ?_⟩; (try (rw [drewN_self w30]; generalize hq_ : World.drewN w30 _ = w30; have n0_ : Aside0 (w30.heap[gb204]? = some (.cells #[.int .i64 a0_0, .int .i64 a0_1, .int .i64 a0_2, .int .u8 a0_3, .int .u8 a0_4] 101 (0, 0))) := ⟨by rw [← hq_]; exact zz15⟩; have n1_ : Aside0 (w30.heap[gb205]? = some (.cells #[.int .i64 0, .int .i64 0, .int .i64 0, .int .u8 0, .int .u8 0] 101 (0, 0))) := ⟨by rw [← hq_]; exact zz44⟩; have n2_ : Aside0 (Below w.heap.size w w30) := ⟨by rw [← hq_]; exact zz18⟩; clear BK204 BK205 HB hq_; have BK204 := n0_; have BK205 := n1_; have HB := n2_; clear n0_ n1_ n2_)); have hcz33_0 : w30.cell? ⟨gb204, 0, none⟩ = some (.int .i64 a0_0) := (blk_cell BK204.out 0).trans rfl; have hcz33_1 : w30.cell? ⟨gb204, 1, none⟩ = some (.int .i64 a0_1) := (blk_cell BK204.out 1).trans rfl; have hcz33_2 : w30.cell? ⟨gb204, 2, none⟩ = some (.int .i64 a0_2) := (blk_cell BK204.out 2).trans rfl; have hcz33_3 : w30.cell? ⟨gb204, 3, none⟩ = some (.int .u8 a0_3) := (blk_cell BK204.out 3).trans rfl; have hcz33_4 : w30.cell? ⟨gb204, 4, none⟩ = some (.int .u8 a0_4) := (blk_cell BK204.out 4).trans rfl; have hfz33_0 := blk_frozen BK204.out 0; have hfz33_1 := blk_frozen BK204.out 1; have hfz33_2 := blk_frozen BK204.out 2; have hfz33_3 := blk_frozen BK204.out 3; have hfz33_4 := blk_frozen BK204.out 4; have hcz34_0 : w30.cell? ⟨gb205, 0, none⟩ = some (.int .i64 0) := (blk_cell BK205.out 0).trans rfl; have hcz34_1 : w30.cell? ⟨gb205, 1, none⟩ = some (.int .i64 0) := (blk_cell BK205.out 1).trans rfl; have hcz34_2 : w30.cell? ⟨gb205, 2, none⟩ = some (.int .i64 0) := (blk_cell BK205.out 2).trans rfl; have hcz34_3 : w30.cell? ⟨gb205, 3, none⟩ = some (.int .u8 0) := (blk_cell BK205.out 3).trans rfl; have hcz34_4 : w30.cell? ⟨gb205, 4, none⟩ = some (.int .u8 0) := (blk_cell BK205.out 4).trans rfl; have hfz34_0 := blk_frozen BK205.out 0; have hfz34_1 := blk_frozen BK205.out 1; have hfz34_2 := blk_frozen BK205.out 2; have hfz34_3 := blk_frozen BK205.out 3; have hfz34_4 := blk_frozen BK205.out 4))
    refine bodyPost_ret (results_ct rfl _ _ gb205 101 #[.int .i64 a0_0, .int .i64 a0_1, .int .i64 t206, .int .u8 t207, .int .u8 t208] (0, 0) _ rfl (by (with_reducible repeat (first | refine blk_drewN ?_ _ | refine blk_drew ?_ | refine blk_alloc ?_ _)); refine blk_put (cs := #[.int .i64 a0_0, .int .i64 a0_1, .int .i64 t206, .int .u8 t207, .int .u8 0]) ?_ 4 _ rfl; (with_reducible repeat (first | refine blk_drewN ?_ _ | refine blk_drew ?_ | refine blk_alloc ?_ _)); refine blk_put (cs := #[.int .i64 a0_0, .int .i64 a0_1, .int .i64 t206, .int .u8 0, .int .u8 0]) ?_ 3 _ rfl; (with_reducible repeat (first | refine blk_drewN ?_ _ | refine blk_drew ?_ | refine blk_alloc ?_ _)); refine blk_put (cs := #[.int .i64 a0_0, .int .i64 a0_1, .int .i64 0, .int .u8 0, .int .u8 0]) ?_ 2 _ rfl; (with_reducible repeat (first | refine blk_drewN ?_ _ | refine blk_drew ?_ | refine blk_alloc ?_ _)); refine blk_put (cs := #[.int .i64 a0_0, .int .i64 0, .int .i64 0, .int .u8 0, .int .u8 0]) ?_ 1 _ rfl; (with_reducible repeat (first | refine blk_drewN ?_ _ | refine blk_drew ?_ | refine blk_alloc ?_ _)); refine blk_put (cs := #[.int .i64 0, .int .i64 0, .int .i64 0, .int .u8 0, .int .u8 0]) ?_ 0 _ rfl; (with_reducible repeat (first | refine blk_drewN ?_ _ | refine blk_drew ?_ | refine blk_alloc ?_ _)); refine blk_far ?_ NB205_204.out _; (with_reducible repeat (first | refine blk_drewN ?_ _ | refine blk_drew ?_ | refine blk_alloc ?_ _)); refine blk_far ?_ NB205_204.out _; (with_reducible repeat (first | refine blk_drewN ?_ _ | refine blk_drew ?_ | refine blk_alloc ?_ _)); refine blk_far ?_ NB205_204.out _; (with_reducible repeat (first | refine blk_drewN ?_ _ | refine blk_drew ?_ | refine blk_alloc ?_ _)); exact BK205.out) Try.underlying101 rfl zz12) rfl ?_
    exact ⟨zz6, zz18⟩
  ·
   replace c21 := Bool.eq_false_iff.mpr c21
   subst c21
   rw [if_neg (show ¬ (false = true) by decide)] at H
   simp only [Option.some.injEq, Prod.mk.injEq] at H
   obtain ⟨rfl, rfl, rfl, rfl, rfl, rfl⟩ := H
   go_enter Try.func111, Try.ntmps111
   go_wp2_with (first | ((with_reducible refine gate_dst (N := 2) rfl ?_); refine zzbx (N := 2) (cs := #[.int .i64 a0_0, .int .i64 a0_1, .int .i64 a0_2, .int .u8 a0_3, .int .u8 a0_4]) (t := 101) ?_; intro gb204 hg w35 hbox hb; have n0_ := Aside0.mk (below_step zz2 hb); have n1_ := Aside0.mk (hbox); have n2_ := Aside0.mk ((zz45 : w.heap.size ≤ gb204)); have n3_ := n2_; clear HB; have HB := n0_; have BK204 := n1_; have GW204 := n2_; have GE204 := n3_; clear n0_ n1_ n2_ n3_; clear hb hbox hg) | ((with_reducible refine gate_dst (N := 4) rfl ?_); refine zzbx (N := 4) (cs := #[.int .i64 0, .int .i64 0, .int .i64 0, .int .u8 0, .int .u8 0]) (t := 101) ?_; intro gb205 hg w36 hbox hb; have n0_ := Aside0.mk (blk_below (g := gb204) (o := .cells #[.int .i64 a0_0, .int .i64 a0_1, .int .i64 a0_2, .int .u8 a0_3, .int .u8 a0_4] 101 (0, 0)) zz15 hb); have n1_ := Aside0.mk (below_step zz29 hb); have n2_ := Aside0.mk (hbox); have n3_ := Aside0.mk ((by rw [hg]; exact (below_size zz29) : w.heap.size ≤ gb205)); have n4_ := n3_; have n5_ := Aside0.mk ((zz42 : gb204 ≠ gb205)); have n6_ := Aside0.mk ((zz43 : gb205 ≠ gb204)); clear BK204; clear HB; have BK204 := n0_; have HB := n1_; have BK205 := n2_; have GW205 := n3_; have GE205 := n4_; have NB204_205 := n5_; have NB205_204 := n6_; clear n0_ n1_ n2_ n3_ n4_ n5_ n6_; clear hb hbox hg; have hnb37 := NB204_205.out; have hnc37 := NB205_204.out; have hcz38_0 : w36.cell? ⟨gb204, 0, none⟩ = some (.int .i64 a0_0) := (blk_cell BK204.out 0).trans rfl; have hcz38_1 : w36.cell? ⟨gb204, 1, none⟩ = some (.int .i64 a0_1) := (blk_cell BK204.out 1).trans rfl; have hcz38_2 : w36.cell? ⟨gb204, 2, none⟩ = some (.int .i64 a0_2) := (blk_cell BK204.out 2).trans rfl; have hcz38_3 : w36.cell? ⟨gb204, 3, none⟩ = some (.int .u8 a0_3) := (blk_cell BK204.out 3).trans rfl; have hcz38_4 : w36.cell? ⟨gb204, 4, none⟩ = some (.int .u8 a0_4) := (blk_cell BK204.out 4).trans rfl; have hfz38_0 := blk_frozen BK204.out 0; have hfz38_1 := blk_frozen BK204.out 1; have hfz38_2 := blk_frozen BK204.out 2; have hfz38_3 := blk_frozen BK204.out 3; have hfz38_4 := blk_frozen BK204.out 4) | ((with_reducible refine gate_callee (f := 113) rfl ?_); refine goesL_ (some 30) rfl rfl Try.func113 zz12 rfl #[.int .u8 a1] rfl zz5 ?_; (with_reducible refine (text_first.calls k a1 t206 t207 t208 false _ A20.out).mono ?_); rintro e w' ⟨rfl, ⟨nd, rfl⟩⟩; refine ⟨_, rfl, ?_⟩; (try (rw [drewN_self w36]; generalize hq_ : World.drewN w36 _ = w36; have n0_ : Aside0 (w36.heap[gb204]? = some (.cells #[.int .i64 a0_0, .int .i64 a0_1, .int .i64 a0_2, .int .u8 a0_3, .int .u8 a0_4] 101 (0, 0))) := ⟨by rw [← hq_]; exact zz15⟩; have n1_ : Aside0 (w36.heap[gb205]? = some (.cells #[.int .i64 0, .int .i64 0, .int .i64 0, .int .u8 0, .int .u8 0] 101 (0, 0))) := ⟨by rw [← hq_]; exact zz44⟩; have n2_ : Aside0 (Below w.heap.size w w36) := ⟨by rw [← hq_]; exact zz18⟩; clear BK204 BK205 HB hq_; have BK204 := n0_; have BK205 := n1_; have HB := n2_; clear n0_ n1_ n2_)); have hcz39_0 : w36.cell? ⟨gb204, 0, none⟩ = some (.int .i64 a0_0) := (blk_cell BK204.out 0).trans rfl; have hcz39_1 : w36.cell? ⟨gb204, 1, none⟩ = some (.int .i64 a0_1) := (blk_cell BK204.out 1).trans rfl; have hcz39_2 : w36.cell? ⟨gb204, 2, none⟩ = some (.int .i64 a0_2) := (blk_cell BK204.out 2).trans rfl; have hcz39_3 : w36.cell? ⟨gb204, 3, none⟩ = some (.int .u8 a0_3) := (blk_cell BK204.out 3).trans rfl; have hcz39_4 : w36.cell? ⟨gb204, 4, none⟩ = some (.int .u8 a0_4) := (blk_cell BK204.out 4).trans rfl; have hfz39_0 := blk_frozen BK204.out 0; have hfz39_1 := blk_frozen BK204.out 1; have hfz39_2 := blk_frozen BK204.out 2; have hfz39_3 := blk_frozen BK204.out 3; have hfz39_4 := blk_frozen BK204.out 4; have hcz40_0 : w36.cell? ⟨gb205, 0, none⟩ = some (.int .i64 0) := (blk_cell BK205.out 0).trans rfl; have hcz40_1 : w36.cell? ⟨gb205, 1, none⟩ = some (.int .i64 0) := (blk_cell BK205.out 1).trans rfl; have hcz40_2 : w36.cell? ⟨gb205, 2, none⟩ = some (.int .i64 0) := (blk_cell BK205.out 2).trans rfl; have hcz40_3 : w36.cell? ⟨gb205, 3, none⟩ = some (.int .u8 0) := (blk_cell BK205.out 3).trans rfl; have hcz40_4 : w36.cell? ⟨gb205, 4, none⟩ = some (.int .u8 0) := (blk_cell BK205.out 4).trans rfl; have hfz40_0 := blk_frozen BK205.out 0; have hfz40_1 := blk_frozen BK205.out 1; have hfz40_2 := blk_frozen BK205.out 2; have hfz40_3 := blk_frozen BK205.out 3; have hfz40_4 := blk_frozen BK205.out 4))
   refine bodyPost_ret (results_ct rfl _ _ gb205 101 #[.int .i64 0, .int .i64 0, .int .i64 0, .int .u8 0, .int .u8 0] (0, 0) _ rfl (by (with_reducible repeat (first | refine blk_drewN ?_ _ | refine blk_drew ?_ | refine blk_alloc ?_ _)); refine blk_put (cs := #[.int .i64 0, .int .i64 0, .int .i64 0, .int .u8 0, .int .u8 0]) ?_ 4 _ rfl; (with_reducible repeat (first | refine blk_drewN ?_ _ | refine blk_drew ?_ | refine blk_alloc ?_ _)); refine blk_put (cs := #[.int .i64 0, .int .i64 0, .int .i64 0, .int .u8 0, .int .u8 0]) ?_ 3 _ rfl; (with_reducible repeat (first | refine blk_drewN ?_ _ | refine blk_drew ?_ | refine blk_alloc ?_ _)); refine blk_put (cs := #[.int .i64 0, .int .i64 0, .int .i64 0, .int .u8 0, .int .u8 0]) ?_ 2 _ rfl; (with_reducible repeat (first | refine blk_drewN ?_ _ | refine blk_drew ?_ | refine blk_alloc ?_ _)); refine blk_put (cs := #[.int .i64 0, .int .i64 0, .int .i64 0, .int .u8 0, .int .u8 0]) ?_ 1 _ rfl; (with_reducible repeat (first | refine blk_drewN ?_ _ | refine blk_drew ?_ | refine blk_alloc ?_ _)); refine blk_put (cs := #[.int .i64 0, .int .i64 0, .int .i64 0, .int .u8 0, .int .u8 0]) ?_ 0 _ rfl; (with_reducible repeat (first | refine blk_drewN ?_ _ | refine blk_drew ?_ | refine blk_alloc ?_ _)); refine blk_far ?_ NB205_204.out _; (with_reducible repeat (first | refine blk_drewN ?_ _ | refine blk_drew ?_ | refine blk_alloc ?_ _)); refine blk_far ?_ NB205_204.out _; (with_reducible repeat (first | refine blk_drewN ?_ _ | refine blk_drew ?_ | refine blk_alloc ?_ _)); refine blk_far ?_ NB205_204.out _; (with_reducible repeat (first | refine blk_drewN ?_ _ | refine blk_drew ?_ | refine blk_alloc ?_ _)); exact BK205.out) Try.underlying101 rfl zz12) rfl ?_
   exact ⟨zz6, zz18⟩
def strings_IndexByte.f (a0 : ByteArray) (a1 : Int) : Option (Int) := some (Lib.indexByte a0.data.toList a1.toNat.toUInt8)
theorem strings_IndexByte.calls (a0 : ByteArray) (a1 : Int) (r : Int) (w : World) (h : strings_IndexByte.f a0 a1 = some r) :
 Calls Try.prog 112 #[.string a0, .int .u8 a1] w fun e w' => e = .returned (.int .i64 r) ∧ Drawn0 w w' := by
 unfold strings_IndexByte.f at h
 obtain rfl := Option.some.inj h
 exact (Try.strings_IndexByte a0 a1 w).mono fun e w' ⟨he, hw⟩ => ⟨he, hw ▸ Drawn0.refl w⟩
def text_State_Push.f (k : Nat) (a0_0 : Int) (a0_1 : Int) (a0_2 : Int) (a0_3 : Int) (a0_4 : Int) (a1 : Int) : Option (Int × Int × Int × Int × Int × Bool) := if a0_0 = 12 then ((text_State_utf8.f k a0_0 (wrap64 (a0_1 - 1)) a0_2 a0_3 a0_4 a1).bind fun bt212 => (some (bt212.1, bt212.2.1, bt212.2.2.1, bt212.2.2.2.1, bt212.2.2.2.2.1, bt212.2.2.2.2.2))) else (if a0_0 = 19 then ((strings_IndexByte.f (⟨#[65, 66, 67, 68, 69, 70, 71, 72, 73, 74, 75, 76, 77, 78, 79, 80, 81, 82, 83, 84, 85, 86, 87, 88, 89, 90, 97, 98, 99, 100, 101, 102, 103, 104, 105, 106, 107, 108, 109, 110, 111, 112, 113, 114, 115, 116, 117, 118, 119, 120, 121, 122, 48, 49, 50, 51, 52, 53, 54, 55, 56, 57, 32, 39, 40, 41, 43, 44, 45, 46, 47, 58, 61, 63]⟩ : ByteArray) a1).bind fun t218 => (if t218 ≥ 0 then (some (a0_0, wrap64 (a0_1 - 1), a0_2, a0_3, a0_4, true)) else (some (0, 0, 0, 0, 0, false)))) else (if a0_0 = 22 then (if a1 < 128 then (some (a0_0, wrap64 (a0_1 - 1), a0_2, a0_3, a0_4, true)) else (some (0, 0, 0, 0, 0, false))) else (some (a0_0, wrap64 (a0_1 - 1), a0_2, a0_3, a0_4, true))))
set_option maxHeartbeats 8000000 in
set_option maxRecDepth 100000 in
theorem text_State_Push.calls (k : Nat) (a0_0 : Int) (a0_1 : Int) (a0_2 : Int) (a0_3 : Int) (a0_4 : Int) (a1 : Int) (r1 : Int) (r2 : Int) (r3 : Int) (r4 : Int) (r5 : Int) (r6 : Bool) (w : World) (h : text_State_Push.f k a0_0 a0_1 a0_2 a0_3 a0_4 a1 = some (r1, r2, r3, r4, r5, r6)) :
 Calls Try.prog 110 #[.agg #[.int .i64 a0_0, .int .i64 a0_1, .int .i64 a0_2, .int .u8 a0_3, .int .u8 a0_4], .int .u8 a1] w fun e w' => e = .returned (.tuple #[.agg #[.int .i64 r1, .int .i64 r2, .int .i64 r3, .int .u8 r4, .int .u8 r5], .bool r6]) ∧ Below w.heap.size w w' := by
 have hu101 := Try.underlying101
 have HB := Aside0.mk (Below.refl w.heap.size w)
 have H : (if a0_0 = 12 then ((text_State_utf8.f k a0_0 (wrap64 (a0_1 - 1)) a0_2 a0_3 a0_4 a1).bind fun bt212 => (some (bt212.1, bt212.2.1, bt212.2.2.1, bt212.2.2.2.1, bt212.2.2.2.2.1, bt212.2.2.2.2.2))) else (if a0_0 = 19 then ((strings_IndexByte.f (⟨#[65, 66, 67, 68, 69, 70, 71, 72, 73, 74, 75, 76, 77, 78, 79, 80, 81, 82, 83, 84, 85, 86, 87, 88, 89, 90, 97, 98, 99, 100, 101, 102, 103, 104, 105, 106, 107, 108, 109, 110, 111, 112, 113, 114, 115, 116, 117, 118, 119, 120, 121, 122, 48, 49, 50, 51, 52, 53, 54, 55, 56, 57, 32, 39, 40, 41, 43, 44, 45, 46, 47, 58, 61, 63]⟩ : ByteArray) a1).bind fun t218 => (if t218 ≥ 0 then (some (a0_0, wrap64 (a0_1 - 1), a0_2, a0_3, a0_4, true)) else (some (0, 0, 0, 0, 0, false)))) else (if a0_0 = 22 then (if a1 < 128 then (some (a0_0, wrap64 (a0_1 - 1), a0_2, a0_3, a0_4, true)) else (some (0, 0, 0, 0, 0, false))) else (some (a0_0, wrap64 (a0_1 - 1), a0_2, a0_3, a0_4, true))))) = some (r1, r2, r3, r4, r5, r6) := h
 clear h
 by_cases c3 : a0_0 = 12
 ·
  rw [if_pos c3] at H
  have c3b0 : (a0_0 == 12) = true := beq_iff_eq.mpr c3
  have c3b1 : (a0_0 != 12) = false := bne_eq_false_iff_eq.mpr c3
  clear c3
  replace H := Option.bind_eq_some_iff.mp H
  obtain ⟨⟨t212, t213, t214, t215, t216, t217⟩, A40, H⟩ := H
  replace H : (some (t212, t213, t214, t215, t216, t217)) = some (r1, r2, r3, r4, r5, r6) := H
  have A4 := Aside0.mk A40
  clear A40
  simp only [Option.some.injEq, Prod.mk.injEq] at H
  obtain ⟨rfl, rfl, rfl, rfl, rfl, rfl⟩ := H
  go_enter Try.func110, Try.ntmps110
  go_wp2_with (first | ((with_reducible refine gate_dst (N := 2) rfl ?_); refine zzbx (N := 2) (cs := #[.int .i64 a0_0, .int .i64 a0_1, .int .i64 a0_2, .int .u8 a0_3, .int .u8 a0_4]) (t := 101) ?_; intro gb210 hg w5 hbox hb; have n0_ := Aside0.mk (below_step zz2 hb); have n1_ := Aside0.mk (hbox); have n2_ := Aside0.mk ((zz45 : w.heap.size ≤ gb210)); have n3_ := n2_; clear HB; have HB := n0_; have BK210 := n1_; have GW210 := n2_; have GE210 := n3_; clear n0_ n1_ n2_ n3_; clear hb hbox hg) | ((with_reducible refine gate_dst (N := 4) rfl ?_); refine zzbx (N := 4) (cs := #[.int .i64 0, .int .i64 0, .int .i64 0, .int .u8 0, .int .u8 0]) (t := 101) ?_; intro gb211 hg w6 hbox hb; have n0_ := Aside0.mk (blk_below (g := gb210) (o := .cells #[.int .i64 a0_0, .int .i64 a0_1, .int .i64 a0_2, .int .u8 a0_3, .int .u8 a0_4] 101 (0, 0)) zz14 hb); have n1_ := Aside0.mk (below_step zz17 hb); have n2_ := Aside0.mk (hbox); have n3_ := Aside0.mk ((by rw [hg]; exact (below_size zz17) : w.heap.size ≤ gb211)); have n4_ := n3_; have n5_ := Aside0.mk ((zz34 : gb210 ≠ gb211)); have n6_ := Aside0.mk ((zz35 : gb211 ≠ gb210)); clear BK210; clear HB; have BK210 := n0_; have HB := n1_; have BK211 := n2_; have GW211 := n3_; have GE211 := n4_; have NB210_211 := n5_; have NB211_210 := n6_; clear n0_ n1_ n2_ n3_ n4_ n5_ n6_; clear hb hbox hg; have hnb7 := NB210_211.out; have hnc7 := NB211_210.out; have hcz8_0 : w6.cell? ⟨gb210, 0, none⟩ = some (.int .i64 a0_0) := (blk_cell BK210.out 0).trans rfl; have hcz8_1 : w6.cell? ⟨gb210, 1, none⟩ = some (.int .i64 a0_1) := (blk_cell BK210.out 1).trans rfl; have hcz8_2 : w6.cell? ⟨gb210, 2, none⟩ = some (.int .i64 a0_2) := (blk_cell BK210.out 2).trans rfl; have hcz8_3 : w6.cell? ⟨gb210, 3, none⟩ = some (.int .u8 a0_3) := (blk_cell BK210.out 3).trans rfl; have hcz8_4 : w6.cell? ⟨gb210, 4, none⟩ = some (.int .u8 a0_4) := (blk_cell BK210.out 4).trans rfl; have hfz8_0 := blk_frozen BK210.out 0; have hfz8_1 := blk_frozen BK210.out 1; have hfz8_2 := blk_frozen BK210.out 2; have hfz8_3 := blk_frozen BK210.out 3; have hfz8_4 := blk_frozen BK210.out 4) | ((with_reducible refine gate_callee (f := 111) rfl ?_); refine goesL_ (some 17) rfl rfl Try.func111 zz12 rfl #[.agg #[.int .i64 a0_0, .int .i64 (wrap64 (a0_1 - 1)), .int .i64 a0_2, .int .u8 a0_3, .int .u8 a0_4], .int .u8 a1] rfl zz5 ?_; (with_reducible refine (text_State_utf8.calls k a0_0 (wrap64 (a0_1 - 1)) a0_2 a0_3 a0_4 a1 t212 t213 t214 t215 t216 t217 _ A4.out).mono ?_); rintro e w9 ⟨rfl, hb⟩; refine ⟨_, rfl, ?_⟩; have n0_ := Aside0.mk (blk_below (g := gb210) (o := .cells #[.int .i64 a0_0, .int .i64 (wrap64 (a0_1 - 1)), .int .i64 a0_2, .int .u8 a0_3, .int .u8 a0_4] 101 (0, 0)) (by (with_reducible repeat (first | refine blk_drewN ?_ _ | refine blk_drew ?_ | refine blk_alloc ?_ _)); refine blk_put (cs := #[.int .i64 a0_0, .int .i64 a0_1, .int .i64 a0_2, .int .u8 a0_3, .int .u8 a0_4]) ?_ 1 _ rfl; (with_reducible repeat (first | refine blk_drewN ?_ _ | refine blk_drew ?_ | refine blk_alloc ?_ _)); exact BK210.out) hb); have n1_ := Aside0.mk (blk_below (g := gb211) (o := .cells #[.int .i64 0, .int .i64 0, .int .i64 0, .int .u8 0, .int .u8 0] 101 (0, 0)) (by (with_reducible repeat (first | refine blk_drewN ?_ _ | refine blk_drew ?_ | refine blk_alloc ?_ _)); refine blk_far ?_ NB211_210.out _; (with_reducible repeat (first | refine blk_drewN ?_ _ | refine blk_drew ?_ | refine blk_alloc ?_ _)); exact BK211.out) hb); have n2_ := Aside0.mk (below_step zz26 hb); clear BK210; clear BK211; clear HB; have BK210 := n0_; have BK211 := n1_; have HB := n2_; clear n0_ n1_ n2_; (try clear hb); (try clear hb2); (try clear hk); (try clear hi); have hcz10_0 : w9.cell? ⟨gb211, 0, none⟩ = some (.int .i64 0) := (blk_cell BK211.out 0).trans rfl; have hcz10_1 : w9.cell? ⟨gb211, 1, none⟩ = some (.int .i64 0) := (blk_cell BK211.out 1).trans rfl; have hcz10_2 : w9.cell? ⟨gb211, 2, none⟩ = some (.int .i64 0) := (blk_cell BK211.out 2).trans rfl; have hcz10_3 : w9.cell? ⟨gb211, 3, none⟩ = some (.int .u8 0) := (blk_cell BK211.out 3).trans rfl; have hcz10_4 : w9.cell? ⟨gb211, 4, none⟩ = some (.int .u8 0) := (blk_cell BK211.out 4).trans rfl; have hfz10_0 := blk_frozen BK211.out 0; have hfz10_1 := blk_frozen BK211.out 1; have hfz10_2 := blk_frozen BK211.out 2; have hfz10_3 := blk_frozen BK211.out 3; have hfz10_4 := blk_frozen BK211.out 4))
  refine bodyPost_ret (results_ct rfl _ _ gb211 101 #[.int .i64 t212, .int .i64 t213, .int .i64 t214, .int .u8 t215, .int .u8 t216] (0, 0) _ rfl (by (with_reducible repeat (first | refine blk_drewN ?_ _ | refine blk_drew ?_ | refine blk_alloc ?_ _)); refine blk_put (cs := #[.int .i64 t212, .int .i64 t213, .int .i64 t214, .int .u8 t215, .int .u8 0]) ?_ 4 _ rfl; (with_reducible repeat (first | refine blk_drewN ?_ _ | refine blk_drew ?_ | refine blk_alloc ?_ _)); refine blk_put (cs := #[.int .i64 t212, .int .i64 t213, .int .i64 t214, .int .u8 0, .int .u8 0]) ?_ 3 _ rfl; (with_reducible repeat (first | refine blk_drewN ?_ _ | refine blk_drew ?_ | refine blk_alloc ?_ _)); refine blk_put (cs := #[.int .i64 t212, .int .i64 t213, .int .i64 0, .int .u8 0, .int .u8 0]) ?_ 2 _ rfl; (with_reducible repeat (first | refine blk_drewN ?_ _ | refine blk_drew ?_ | refine blk_alloc ?_ _)); refine blk_put (cs := #[.int .i64 t212, .int .i64 0, .int .i64 0, .int .u8 0, .int .u8 0]) ?_ 1 _ rfl; (with_reducible repeat (first | refine blk_drewN ?_ _ | refine blk_drew ?_ | refine blk_alloc ?_ _)); refine blk_put (cs := #[.int .i64 0, .int .i64 0, .int .i64 0, .int .u8 0, .int .u8 0]) ?_ 0 _ rfl; (with_reducible repeat (first | refine blk_drewN ?_ _ | refine blk_drew ?_ | refine blk_alloc ?_ _)); exact BK211.out) Try.underlying101 rfl zz12) rfl ?_
  exact ⟨zz6, zz26⟩
 ·
  rw [if_neg c3] at H
  have c3b0 : (a0_0 == 12) = false := beq_eq_false_iff_ne.mpr c3
  have c3b1 : (a0_0 != 12) = true := bne_iff_ne.mpr c3
  by_cases c11 : a0_0 = 19
  ·
   rw [if_pos c11] at H
   have c11b0 : (a0_0 == 19) = true := beq_iff_eq.mpr c11
   have c11b1 : (a0_0 != 19) = false := bne_eq_false_iff_eq.mpr c11
   clear c11
   replace H := Option.bind_eq_some_iff.mp H
   obtain ⟨t218, A120, H⟩ := H
   replace H : (if t218 ≥ 0 then (some (a0_0, wrap64 (a0_1 - 1), a0_2, a0_3, a0_4, true)) else (some (0, 0, 0, 0, 0, false))) = some (r1, r2, r3, r4, r5, r6) := H
   have A12 := Aside0.mk A120
   clear A120
   by_cases c13 : t218 ≥ 0
   ·
    rw [if_pos c13] at H
    have c13b0 : decide (0 ≤ t218) = true := decide_eq_true c13
    clear c13
    simp only [Option.some.injEq, Prod.mk.injEq] at H
    obtain ⟨rfl, rfl, rfl, rfl, rfl, rfl⟩ := H
    go_enter Try.func110, Try.ntmps110
    go_wp2_with (first | ((with_reducible refine gate_dst (N := 2) rfl ?_); refine zzbx (N := 2) (cs := #[.int .i64 a0_0, .int .i64 a0_1, .int .i64 a0_2, .int .u8 a0_3, .int .u8 a0_4]) (t := 101) ?_; intro gb210 hg w14 hbox hb; have n0_ := Aside0.mk (below_step zz2 hb); have n1_ := Aside0.mk (hbox); have n2_ := Aside0.mk ((zz45 : w.heap.size ≤ gb210)); have n3_ := n2_; clear HB; have HB := n0_; have BK210 := n1_; have GW210 := n2_; have GE210 := n3_; clear n0_ n1_ n2_ n3_; clear hb hbox hg) | ((with_reducible refine gate_dst (N := 4) rfl ?_); refine zzbx (N := 4) (cs := #[.int .i64 0, .int .i64 0, .int .i64 0, .int .u8 0, .int .u8 0]) (t := 101) ?_; intro gb211 hg w15 hbox hb; have n0_ := Aside0.mk (blk_below (g := gb210) (o := .cells #[.int .i64 a0_0, .int .i64 a0_1, .int .i64 a0_2, .int .u8 a0_3, .int .u8 a0_4] 101 (0, 0)) zz14 hb); have n1_ := Aside0.mk (below_step zz17 hb); have n2_ := Aside0.mk (hbox); have n3_ := Aside0.mk ((by rw [hg]; exact (below_size zz17) : w.heap.size ≤ gb211)); have n4_ := n3_; have n5_ := Aside0.mk ((zz34 : gb210 ≠ gb211)); have n6_ := Aside0.mk ((zz35 : gb211 ≠ gb210)); clear BK210; clear HB; have BK210 := n0_; have HB := n1_; have BK211 := n2_; have GW211 := n3_; have GE211 := n4_; have NB210_211 := n5_; have NB211_210 := n6_; clear n0_ n1_ n2_ n3_ n4_ n5_ n6_; clear hb hbox hg; have hnb16 := NB210_211.out; have hnc16 := NB211_210.out; have hcz17_0 : w15.cell? ⟨gb210, 0, none⟩ = some (.int .i64 a0_0) := (blk_cell BK210.out 0).trans rfl; have hcz17_1 : w15.cell? ⟨gb210, 1, none⟩ = some (.int .i64 a0_1) := (blk_cell BK210.out 1).trans rfl; have hcz17_2 : w15.cell? ⟨gb210, 2, none⟩ = some (.int .i64 a0_2) := (blk_cell BK210.out 2).trans rfl; have hcz17_3 : w15.cell? ⟨gb210, 3, none⟩ = some (.int .u8 a0_3) := (blk_cell BK210.out 3).trans rfl; have hcz17_4 : w15.cell? ⟨gb210, 4, none⟩ = some (.int .u8 a0_4) := (blk_cell BK210.out 4).trans rfl; have hfz17_0 := blk_frozen BK210.out 0; have hfz17_1 := blk_frozen BK210.out 1; have hfz17_2 := blk_frozen BK210.out 2; have hfz17_3 := blk_frozen BK210.out 3; have hfz17_4 := blk_frozen BK210.out 4) | ((with_reducible refine gate_callee (f := 112) rfl ?_); refine goesL_ (some 23) rfl rfl Try.func112 zz12 rfl #[.string (⟨#[65, 66, 67, 68, 69, 70, 71, 72, 73, 74, 75, 76, 77, 78, 79, 80, 81, 82, 83, 84, 85, 86, 87, 88, 89, 90, 97, 98, 99, 100, 101, 102, 103, 104, 105, 106, 107, 108, 109, 110, 111, 112, 113, 114, 115, 116, 117, 118, 119, 120, 121, 122, 48, 49, 50, 51, 52, 53, 54, 55, 56, 57, 32, 39, 40, 41, 43, 44, 45, 46, 47, 58, 61, 63]⟩ : ByteArray), .int .u8 a1] rfl zz5 ?_; (with_reducible refine (strings_IndexByte.calls (⟨#[65, 66, 67, 68, 69, 70, 71, 72, 73, 74, 75, 76, 77, 78, 79, 80, 81, 82, 83, 84, 85, 86, 87, 88, 89, 90, 97, 98, 99, 100, 101, 102, 103, 104, 105, 106, 107, 108, 109, 110, 111, 112, 113, 114, 115, 116, 117, 118, 119, 120, 121, 122, 48, 49, 50, 51, 52, 53, 54, 55, 56, 57, 32, 39, 40, 41, 43, 44, 45, 46, 47, 58, 61, 63]⟩ : ByteArray) a1 t218 _ A12.out).mono ?_); rintro e w' ⟨rfl, ⟨nd, rfl⟩⟩; refine ⟨_, rfl, ?_⟩; have hcz18_0 : w15.cell? ⟨gb211, 0, none⟩ = some (.int .i64 0) := (blk_cell BK211.out 0).trans rfl; have hcz18_1 : w15.cell? ⟨gb211, 1, none⟩ = some (.int .i64 0) := (blk_cell BK211.out 1).trans rfl; have hcz18_2 : w15.cell? ⟨gb211, 2, none⟩ = some (.int .i64 0) := (blk_cell BK211.out 2).trans rfl; have hcz18_3 : w15.cell? ⟨gb211, 3, none⟩ = some (.int .u8 0) := (blk_cell BK211.out 3).trans rfl; have hcz18_4 : w15.cell? ⟨gb211, 4, none⟩ = some (.int .u8 0) := (blk_cell BK211.out 4).trans rfl; have hfz18_0 := blk_frozen BK211.out 0; have hfz18_1 := blk_frozen BK211.out 1; have hfz18_2 := blk_frozen BK211.out 2; have hfz18_3 := blk_frozen BK211.out 3; have hfz18_4 := blk_frozen BK211.out 4))
    refine bodyPost_ret (results_ct rfl _ _ gb211 101 #[.int .i64 a0_0, .int .i64 (wrap64 (a0_1 - 1)), .int .i64 a0_2, .int .u8 a0_3, .int .u8 a0_4] (0, 0) _ rfl zz9 Try.underlying101 rfl zz12) rfl ?_
    exact ⟨zz6, zz26⟩
   ·
    rw [if_neg c13] at H
    have c13b0 : decide (0 ≤ t218) = false := decide_eq_false c13
    clear c13
    simp only [Option.some.injEq, Prod.mk.injEq] at H
    obtain ⟨rfl, rfl, rfl, rfl, rfl, rfl⟩ := H
    go_enter Try.func110, Try.ntmps110
    go_wp2_with (first | ((with_reducible refine gate_dst (N := 2) rfl ?_); refine zzbx (N := 2) (cs := #[.int .i64 a0_0, .int .i64 a0_1, .int .i64 a0_2, .int .u8 a0_3, .int .u8 a0_4]) (t := 101) ?_; intro gb210 hg w19 hbox hb; have n0_ := Aside0.mk (below_step zz2 hb); have n1_ := Aside0.mk (hbox); have n2_ := Aside0.mk ((zz45 : w.heap.size ≤ gb210)); have n3_ := n2_; clear HB; have HB := n0_; have BK210 := n1_; have GW210 := n2_; have GE210 := n3_; clear n0_ n1_ n2_ n3_; clear hb hbox hg) | ((with_reducible refine gate_dst (N := 4) rfl ?_); refine zzbx (N := 4) (cs := #[.int .i64 0, .int .i64 0, .int .i64 0, .int .u8 0, .int .u8 0]) (t := 101) ?_; intro gb211 hg w20 hbox hb; have n0_ := Aside0.mk (blk_below (g := gb210) (o := .cells #[.int .i64 a0_0, .int .i64 a0_1, .int .i64 a0_2, .int .u8 a0_3, .int .u8 a0_4] 101 (0, 0)) zz14 hb); have n1_ := Aside0.mk (below_step zz17 hb); have n2_ := Aside0.mk (hbox); have n3_ := Aside0.mk ((by rw [hg]; exact (below_size zz17) : w.heap.size ≤ gb211)); have n4_ := n3_; have n5_ := Aside0.mk ((zz34 : gb210 ≠ gb211)); have n6_ := Aside0.mk ((zz35 : gb211 ≠ gb210)); clear BK210; clear HB; have BK210 := n0_; have HB := n1_; have BK211 := n2_; have GW211 := n3_; have GE211 := n4_; have NB210_211 := n5_; have NB211_210 := n6_; clear n0_ n1_ n2_ n3_ n4_ n5_ n6_; clear hb hbox hg; have hnb21 := NB210_211.out; have hnc21 := NB211_210.out; have hcz22_0 : w20.cell? ⟨gb210, 0, none⟩ = some (.int .i64 a0_0) := (blk_cell BK210.out 0).trans rfl; have hcz22_1 : w20.cell? ⟨gb210, 1, none⟩ = some (.int .i64 a0_1) := (blk_cell BK210.out 1).trans rfl; have hcz22_2 : w20.cell? ⟨gb210, 2, none⟩ = some (.int .i64 a0_2) := (blk_cell BK210.out 2).trans rfl; have hcz22_3 : w20.cell? ⟨gb210, 3, none⟩ = some (.int .u8 a0_3) := (blk_cell BK210.out 3).trans rfl; have hcz22_4 : w20.cell? ⟨gb210, 4, none⟩ = some (.int .u8 a0_4) := (blk_cell BK210.out 4).trans rfl; have hfz22_0 := blk_frozen BK210.out 0; have hfz22_1 := blk_frozen BK210.out 1; have hfz22_2 := blk_frozen BK210.out 2; have hfz22_3 := blk_frozen BK210.out 3; have hfz22_4 := blk_frozen BK210.out 4) | ((with_reducible refine gate_callee (f := 112) rfl ?_); refine goesL_ (some 23) rfl rfl Try.func112 zz12 rfl #[.string (⟨#[65, 66, 67, 68, 69, 70, 71, 72, 73, 74, 75, 76, 77, 78, 79, 80, 81, 82, 83, 84, 85, 86, 87, 88, 89, 90, 97, 98, 99, 100, 101, 102, 103, 104, 105, 106, 107, 108, 109, 110, 111, 112, 113, 114, 115, 116, 117, 118, 119, 120, 121, 122, 48, 49, 50, 51, 52, 53, 54, 55, 56, 57, 32, 39, 40, 41, 43, 44, 45, 46, 47, 58, 61, 63]⟩ : ByteArray), .int .u8 a1] rfl zz5 ?_; (with_reducible refine (strings_IndexByte.calls (⟨#[65, 66, 67, 68, 69, 70, 71, 72, 73, 74, 75, 76, 77, 78, 79, 80, 81, 82, 83, 84, 85, 86, 87, 88, 89, 90, 97, 98, 99, 100, 101, 102, 103, 104, 105, 106, 107, 108, 109, 110, 111, 112, 113, 114, 115, 116, 117, 118, 119, 120, 121, 122, 48, 49, 50, 51, 52, 53, 54, 55, 56, 57, 32, 39, 40, 41, 43, 44, 45, 46, 47, 58, 61, 63]⟩ : ByteArray) a1 t218 _ A12.out).mono ?_); rintro e w' ⟨rfl, ⟨nd, rfl⟩⟩; refine ⟨_, rfl, ?_⟩; have hcz23_0 : w20.cell? ⟨gb211, 0, none⟩ = some (.int .i64 0) := (blk_cell BK211.out 0).trans rfl; have hcz23_1 : w20.cell? ⟨gb211, 1, none⟩ = some (.int .i64 0) := (blk_cell BK211.out 1).trans rfl; have hcz23_2 : w20.cell? ⟨gb211, 2, none⟩ = some (.int .i64 0) := (blk_cell BK211.out 2).trans rfl; have hcz23_3 : w20.cell? ⟨gb211, 3, none⟩ = some (.int .u8 0) := (blk_cell BK211.out 3).trans rfl; have hcz23_4 : w20.cell? ⟨gb211, 4, none⟩ = some (.int .u8 0) := (blk_cell BK211.out 4).trans rfl; have hfz23_0 := blk_frozen BK211.out 0; have hfz23_1 := blk_frozen BK211.out 1; have hfz23_2 := blk_frozen BK211.out 2; have hfz23_3 := blk_frozen BK211.out 3; have hfz23_4 := blk_frozen BK211.out 4))
    refine bodyPost_ret (results_ct rfl _ _ gb211 101 #[.int .i64 0, .int .i64 0, .int .i64 0, .int .u8 0, .int .u8 0] (0, 0) _ rfl (by (with_reducible repeat (first | refine blk_drewN ?_ _ | refine blk_drew ?_ | refine blk_alloc ?_ _)); refine blk_put (cs := #[.int .i64 0, .int .i64 0, .int .i64 0, .int .u8 0, .int .u8 0]) ?_ 4 _ rfl; (with_reducible repeat (first | refine blk_drewN ?_ _ | refine blk_drew ?_ | refine blk_alloc ?_ _)); refine blk_put (cs := #[.int .i64 0, .int .i64 0, .int .i64 0, .int .u8 0, .int .u8 0]) ?_ 3 _ rfl; (with_reducible repeat (first | refine blk_drewN ?_ _ | refine blk_drew ?_ | refine blk_alloc ?_ _)); refine blk_put (cs := #[.int .i64 0, .int .i64 0, .int .i64 0, .int .u8 0, .int .u8 0]) ?_ 2 _ rfl; (with_reducible repeat (first | refine blk_drewN ?_ _ | refine blk_drew ?_ | refine blk_alloc ?_ _)); refine blk_put (cs := #[.int .i64 0, .int .i64 0, .int .i64 0, .int .u8 0, .int .u8 0]) ?_ 1 _ rfl; (with_reducible repeat (first | refine blk_drewN ?_ _ | refine blk_drew ?_ | refine blk_alloc ?_ _)); refine blk_put (cs := #[.int .i64 0, .int .i64 0, .int .i64 0, .int .u8 0, .int .u8 0]) ?_ 0 _ rfl; (with_reducible repeat (first | refine blk_drewN ?_ _ | refine blk_drew ?_ | refine blk_alloc ?_ _)); refine blk_far ?_ NB211_210.out _; (with_reducible repeat (first | refine blk_drewN ?_ _ | refine blk_drew ?_ | refine blk_alloc ?_ _)); exact BK211.out) Try.underlying101 rfl zz12) rfl ?_
    exact ⟨zz6, zz26⟩
  ·
   rw [if_neg c11] at H
   have c11b0 : (a0_0 == 19) = false := beq_eq_false_iff_ne.mpr c11
   have c11b1 : (a0_0 != 19) = true := bne_iff_ne.mpr c11
   by_cases c24 : a0_0 = 22
   ·
    rw [if_pos c24] at H
    have c24b0 : (a0_0 == 22) = true := beq_iff_eq.mpr c24
    have c24b1 : (a0_0 != 22) = false := bne_eq_false_iff_eq.mpr c24
    clear c24
    by_cases c25 : a1 < 128
    ·
     rw [if_pos c25] at H
     have c25b0 : decide (a1 < 128) = true := decide_eq_true c25
     clear c25
     simp only [Option.some.injEq, Prod.mk.injEq] at H
     obtain ⟨rfl, rfl, rfl, rfl, rfl, rfl⟩ := H
     go_enter Try.func110, Try.ntmps110
     go_wp2_with (first | ((with_reducible refine gate_dst (N := 2) rfl ?_); refine zzbx (N := 2) (cs := #[.int .i64 a0_0, .int .i64 a0_1, .int .i64 a0_2, .int .u8 a0_3, .int .u8 a0_4]) (t := 101) ?_; intro gb210 hg w26 hbox hb; have n0_ := Aside0.mk (below_step zz2 hb); have n1_ := Aside0.mk (hbox); have n2_ := Aside0.mk ((zz45 : w.heap.size ≤ gb210)); have n3_ := n2_; clear HB; have HB := n0_; have BK210 := n1_; have GW210 := n2_; have GE210 := n3_; clear n0_ n1_ n2_ n3_; clear hb hbox hg) | ((with_reducible refine gate_dst (N := 4) rfl ?_); refine zzbx (N := 4) (cs := #[.int .i64 0, .int .i64 0, .int .i64 0, .int .u8 0, .int .u8 0]) (t := 101) ?_; intro gb211 hg w27 hbox hb; have n0_ := Aside0.mk (blk_below (g := gb210) (o := .cells #[.int .i64 a0_0, .int .i64 a0_1, .int .i64 a0_2, .int .u8 a0_3, .int .u8 a0_4] 101 (0, 0)) zz14 hb); have n1_ := Aside0.mk (below_step zz17 hb); have n2_ := Aside0.mk (hbox); have n3_ := Aside0.mk ((by rw [hg]; exact (below_size zz17) : w.heap.size ≤ gb211)); have n4_ := n3_; have n5_ := Aside0.mk ((zz34 : gb210 ≠ gb211)); have n6_ := Aside0.mk ((zz35 : gb211 ≠ gb210)); clear BK210; clear HB; have BK210 := n0_; have HB := n1_; have BK211 := n2_; have GW211 := n3_; have GE211 := n4_; have NB210_211 := n5_; have NB211_210 := n6_; clear n0_ n1_ n2_ n3_ n4_ n5_ n6_; clear hb hbox hg; have hnb28 := NB210_211.out; have hnc28 := NB211_210.out; have hcz29_0 : w27.cell? ⟨gb210, 0, none⟩ = some (.int .i64 a0_0) := (blk_cell BK210.out 0).trans rfl; have hcz29_1 : w27.cell? ⟨gb210, 1, none⟩ = some (.int .i64 a0_1) := (blk_cell BK210.out 1).trans rfl; have hcz29_2 : w27.cell? ⟨gb210, 2, none⟩ = some (.int .i64 a0_2) := (blk_cell BK210.out 2).trans rfl; have hcz29_3 : w27.cell? ⟨gb210, 3, none⟩ = some (.int .u8 a0_3) := (blk_cell BK210.out 3).trans rfl; have hcz29_4 : w27.cell? ⟨gb210, 4, none⟩ = some (.int .u8 a0_4) := (blk_cell BK210.out 4).trans rfl; have hfz29_0 := blk_frozen BK210.out 0; have hfz29_1 := blk_frozen BK210.out 1; have hfz29_2 := blk_frozen BK210.out 2; have hfz29_3 := blk_frozen BK210.out 3; have hfz29_4 := blk_frozen BK210.out 4; have hcz30_0 : w27.cell? ⟨gb211, 0, none⟩ = some (.int .i64 0) := (blk_cell BK211.out 0).trans rfl; have hcz30_1 : w27.cell? ⟨gb211, 1, none⟩ = some (.int .i64 0) := (blk_cell BK211.out 1).trans rfl; have hcz30_2 : w27.cell? ⟨gb211, 2, none⟩ = some (.int .i64 0) := (blk_cell BK211.out 2).trans rfl; have hcz30_3 : w27.cell? ⟨gb211, 3, none⟩ = some (.int .u8 0) := (blk_cell BK211.out 3).trans rfl; have hcz30_4 : w27.cell? ⟨gb211, 4, none⟩ = some (.int .u8 0) := (blk_cell BK211.out 4).trans rfl; have hfz30_0 := blk_frozen BK211.out 0; have hfz30_1 := blk_frozen BK211.out 1; have hfz30_2 := blk_frozen BK211.out 2; have hfz30_3 := blk_frozen BK211.out 3; have hfz30_4 := blk_frozen BK211.out 4))
     refine bodyPost_ret (results_ct rfl _ _ gb211 101 #[.int .i64 a0_0, .int .i64 (wrap64 (a0_1 - 1)), .int .i64 a0_2, .int .u8 a0_3, .int .u8 a0_4] (0, 0) _ rfl zz9 Try.underlying101 rfl zz12) rfl ?_
     exact ⟨zz6, zz26⟩
    ·
     rw [if_neg c25] at H
     have c25b0 : decide (a1 < 128) = false := decide_eq_false c25
     clear c25
     simp only [Option.some.injEq, Prod.mk.injEq] at H
     obtain ⟨rfl, rfl, rfl, rfl, rfl, rfl⟩ := H
     go_enter Try.func110, Try.ntmps110
     go_wp2_with (first | ((with_reducible refine gate_dst (N := 2) rfl ?_); refine zzbx (N := 2) (cs := #[.int .i64 a0_0, .int .i64 a0_1, .int .i64 a0_2, .int .u8 a0_3, .int .u8 a0_4]) (t := 101) ?_; intro gb210 hg w31 hbox hb; have n0_ := Aside0.mk (below_step zz2 hb); have n1_ := Aside0.mk (hbox); have n2_ := Aside0.mk ((zz45 : w.heap.size ≤ gb210)); have n3_ := n2_; clear HB; have HB := n0_; have BK210 := n1_; have GW210 := n2_; have GE210 := n3_; clear n0_ n1_ n2_ n3_; clear hb hbox hg) | ((with_reducible refine gate_dst (N := 4) rfl ?_); refine zzbx (N := 4) (cs := #[.int .i64 0, .int .i64 0, .int .i64 0, .int .u8 0, .int .u8 0]) (t := 101) ?_; intro gb211 hg w32 hbox hb; have n0_ := Aside0.mk (blk_below (g := gb210) (o := .cells #[.int .i64 a0_0, .int .i64 a0_1, .int .i64 a0_2, .int .u8 a0_3, .int .u8 a0_4] 101 (0, 0)) zz14 hb); have n1_ := Aside0.mk (below_step zz17 hb); have n2_ := Aside0.mk (hbox); have n3_ := Aside0.mk ((by rw [hg]; exact (below_size zz17) : w.heap.size ≤ gb211)); have n4_ := n3_; have n5_ := Aside0.mk ((zz34 : gb210 ≠ gb211)); have n6_ := Aside0.mk ((zz35 : gb211 ≠ gb210)); clear BK210; clear HB; have BK210 := n0_; have HB := n1_; have BK211 := n2_; have GW211 := n3_; have GE211 := n4_; have NB210_211 := n5_; have NB211_210 := n6_; clear n0_ n1_ n2_ n3_ n4_ n5_ n6_; clear hb hbox hg; have hnb33 := NB210_211.out; have hnc33 := NB211_210.out; have hcz34_0 : w32.cell? ⟨gb210, 0, none⟩ = some (.int .i64 a0_0) := (blk_cell BK210.out 0).trans rfl; have hcz34_1 : w32.cell? ⟨gb210, 1, none⟩ = some (.int .i64 a0_1) := (blk_cell BK210.out 1).trans rfl; have hcz34_2 : w32.cell? ⟨gb210, 2, none⟩ = some (.int .i64 a0_2) := (blk_cell BK210.out 2).trans rfl; have hcz34_3 : w32.cell? ⟨gb210, 3, none⟩ = some (.int .u8 a0_3) := (blk_cell BK210.out 3).trans rfl; have hcz34_4 : w32.cell? ⟨gb210, 4, none⟩ = some (.int .u8 a0_4) := (blk_cell BK210.out 4).trans rfl; have hfz34_0 := blk_frozen BK210.out 0; have hfz34_1 := blk_frozen BK210.out 1; have hfz34_2 := blk_frozen BK210.out 2; have hfz34_3 := blk_frozen BK210.out 3; have hfz34_4 := blk_frozen BK210.out 4; have hcz35_0 : w32.cell? ⟨gb211, 0, none⟩ = some (.int .i64 0) := (blk_cell BK211.out 0).trans rfl; have hcz35_1 : w32.cell? ⟨gb211, 1, none⟩ = some (.int .i64 0) := (blk_cell BK211.out 1).trans rfl; have hcz35_2 : w32.cell? ⟨gb211, 2, none⟩ = some (.int .i64 0) := (blk_cell BK211.out 2).trans rfl; have hcz35_3 : w32.cell? ⟨gb211, 3, none⟩ = some (.int .u8 0) := (blk_cell BK211.out 3).trans rfl; have hcz35_4 : w32.cell? ⟨gb211, 4, none⟩ = some (.int .u8 0) := (blk_cell BK211.out 4).trans rfl; have hfz35_0 := blk_frozen BK211.out 0; have hfz35_1 := blk_frozen BK211.out 1; have hfz35_2 := blk_frozen BK211.out 2; have hfz35_3 := blk_frozen BK211.out 3; have hfz35_4 := blk_frozen BK211.out 4))
     refine bodyPost_ret (results_ct rfl _ _ gb211 101 #[.int .i64 0, .int .i64 0, .int .i64 0, .int .u8 0, .int .u8 0] (0, 0) _ rfl (by (with_reducible repeat (first | refine blk_drewN ?_ _ | refine blk_drew ?_ | refine blk_alloc ?_ _)); refine blk_put (cs := #[.int .i64 0, .int .i64 0, .int .i64 0, .int .u8 0, .int .u8 0]) ?_ 4 _ rfl; (with_reducible repeat (first | refine blk_drewN ?_ _ | refine blk_drew ?_ | refine blk_alloc ?_ _)); refine blk_put (cs := #[.int .i64 0, .int .i64 0, .int .i64 0, .int .u8 0, .int .u8 0]) ?_ 3 _ rfl; (with_reducible repeat (first | refine blk_drewN ?_ _ | refine blk_drew ?_ | refine blk_alloc ?_ _)); refine blk_put (cs := #[.int .i64 0, .int .i64 0, .int .i64 0, .int .u8 0, .int .u8 0]) ?_ 2 _ rfl; (with_reducible repeat (first | refine blk_drewN ?_ _ | refine blk_drew ?_ | refine blk_alloc ?_ _)); refine blk_put (cs := #[.int .i64 0, .int .i64 0, .int .i64 0, .int .u8 0, .int .u8 0]) ?_ 1 _ rfl; (with_reducible repeat (first | refine blk_drewN ?_ _ | refine blk_drew ?_ | refine blk_alloc ?_ _)); refine blk_put (cs := #[.int .i64 0, .int .i64 0, .int .i64 0, .int .u8 0, .int .u8 0]) ?_ 0 _ rfl; (with_reducible repeat (first | refine blk_drewN ?_ _ | refine blk_drew ?_ | refine blk_alloc ?_ _)); refine blk_far ?_ NB211_210.out _; (with_reducible repeat (first | refine blk_drewN ?_ _ | refine blk_drew ?_ | refine blk_alloc ?_ _)); exact BK211.out) Try.underlying101 rfl zz12) rfl ?_
     exact ⟨zz6, zz26⟩
   ·
    rw [if_neg c24] at H
    have c24b0 : (a0_0 == 22) = false := beq_eq_false_iff_ne.mpr c24
    have c24b1 : (a0_0 != 22) = true := bne_iff_ne.mpr c24
    simp only [Option.some.injEq, Prod.mk.injEq] at H
    obtain ⟨rfl, rfl, rfl, rfl, rfl, rfl⟩ := H
    go_enter Try.func110, Try.ntmps110
    go_wp2_with (first | ((with_reducible refine gate_dst (N := 2) rfl ?_); refine zzbx (N := 2) (cs := #[.int .i64 a0_0, .int .i64 a0_1, .int .i64 a0_2, .int .u8 a0_3, .int .u8 a0_4]) (t := 101) ?_; intro gb210 hg w36 hbox hb; have n0_ := Aside0.mk (below_step zz2 hb); have n1_ := Aside0.mk (hbox); have n2_ := Aside0.mk ((zz45 : w.heap.size ≤ gb210)); have n3_ := n2_; clear HB; have HB := n0_; have BK210 := n1_; have GW210 := n2_; have GE210 := n3_; clear n0_ n1_ n2_ n3_; clear hb hbox hg) | ((with_reducible refine gate_dst (N := 4) rfl ?_); refine zzbx (N := 4) (cs := #[.int .i64 0, .int .i64 0, .int .i64 0, .int .u8 0, .int .u8 0]) (t := 101) ?_; intro gb211 hg w37 hbox hb; have n0_ := Aside0.mk (blk_below (g := gb210) (o := .cells #[.int .i64 a0_0, .int .i64 a0_1, .int .i64 a0_2, .int .u8 a0_3, .int .u8 a0_4] 101 (0, 0)) zz14 hb); have n1_ := Aside0.mk (below_step zz17 hb); have n2_ := Aside0.mk (hbox); have n3_ := Aside0.mk ((by rw [hg]; exact (below_size zz17) : w.heap.size ≤ gb211)); have n4_ := n3_; have n5_ := Aside0.mk ((zz34 : gb210 ≠ gb211)); have n6_ := Aside0.mk ((zz35 : gb211 ≠ gb210)); clear BK210; clear HB; have BK210 := n0_; have HB := n1_; have BK211 := n2_; have GW211 := n3_; have GE211 := n4_; have NB210_211 := n5_; have NB211_210 := n6_; clear n0_ n1_ n2_ n3_ n4_ n5_ n6_; clear hb hbox hg; have hnb38 := NB210_211.out; have hnc38 := NB211_210.out; have hcz39_0 : w37.cell? ⟨gb210, 0, none⟩ = some (.int .i64 a0_0) := (blk_cell BK210.out 0).trans rfl; have hcz39_1 : w37.cell? ⟨gb210, 1, none⟩ = some (.int .i64 a0_1) := (blk_cell BK210.out 1).trans rfl; have hcz39_2 : w37.cell? ⟨gb210, 2, none⟩ = some (.int .i64 a0_2) := (blk_cell BK210.out 2).trans rfl; have hcz39_3 : w37.cell? ⟨gb210, 3, none⟩ = some (.int .u8 a0_3) := (blk_cell BK210.out 3).trans rfl; have hcz39_4 : w37.cell? ⟨gb210, 4, none⟩ = some (.int .u8 a0_4) := (blk_cell BK210.out 4).trans rfl; have hfz39_0 := blk_frozen BK210.out 0; have hfz39_1 := blk_frozen BK210.out 1; have hfz39_2 := blk_frozen BK210.out 2; have hfz39_3 := blk_frozen BK210.out 3; have hfz39_4 := blk_frozen BK210.out 4; have hcz40_0 : w37.cell? ⟨gb211, 0, none⟩ = some (.int .i64 0) := (blk_cell BK211.out 0).trans rfl; have hcz40_1 : w37.cell? ⟨gb211, 1, none⟩ = some (.int .i64 0) := (blk_cell BK211.out 1).trans rfl; have hcz40_2 : w37.cell? ⟨gb211, 2, none⟩ = some (.int .i64 0) := (blk_cell BK211.out 2).trans rfl; have hcz40_3 : w37.cell? ⟨gb211, 3, none⟩ = some (.int .u8 0) := (blk_cell BK211.out 3).trans rfl; have hcz40_4 : w37.cell? ⟨gb211, 4, none⟩ = some (.int .u8 0) := (blk_cell BK211.out 4).trans rfl; have hfz40_0 := blk_frozen BK211.out 0; have hfz40_1 := blk_frozen BK211.out 1; have hfz40_2 := blk_frozen BK211.out 2; have hfz40_3 := blk_frozen BK211.out 3; have hfz40_4 := blk_frozen BK211.out 4))
    refine bodyPost_ret (results_ct rfl _ _ gb211 101 #[.int .i64 a0_0, .int .i64 (wrap64 (a0_1 - 1)), .int .i64 a0_2, .int .u8 a0_3, .int .u8 a0_4] (0, 0) _ rfl zz9 Try.underlying101 rfl zz12) rfl ?_
    exact ⟨zz6, zz26⟩
end Go.Proofs.Ytpfconocipmcjaa.PC
