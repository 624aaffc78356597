/- What the row of GrammarFront stands on, made small by a program of this session (pack.py). -/
import Derived.Test.YtcfommconnlhgaaCGrammarFront2
import Derived.Test.YtcfommconnlhgaaCGrammarFront4
import Derived.Test.YtcfommconnlhgaaCGrammarFront5
namespace Go.Proofs.Ytcfommconnlhgaa.PC
open RowKit YtcfommconnlhgaaW.PrintWords YtcfommconnlhgaaW.PrintLast YtcfommconnlhgaaW.PrintMore
attribute [local go_sem] max2_int min2_int max_two min_two max_three min_three max_four min_four
set_option linter.unusedVariables false
set_option linter.unusedSimpArgs false
def text_Start.f (a0 : Int) (a1 : Int) : Option (Int × Int × Int × Int × Int × Bool) := if a1 < 0 then (some (0, 0, 0, 0, 0, false)) else (some (a0, a1, 0, 0, 0, true))
set_option maxHeartbeats 8000000 in
set_option maxRecDepth 100000 in
theorem text_Start.calls (a0 : Int) (a1 : Int) (r1 : Int) (r2 : Int) (r3 : Int) (r4 : Int) (r5 : Int) (r6 : Bool) (w : World) (h : text_Start.f a0 a1 = some (r1, r2, r3, r4, r5, r6)) :
 Calls Try.prog 83 #[.int .i64 a0, .int .i64 a1] w fun e w' => e = .returned (.tuple #[.agg #[.int .i64 r1, .int .i64 r2, .int .i64 r3, .int .u8 r4, .int .u8 r5], .bool r6]) ∧ Below w.heap.size w w' := by
 have hu171 := Try.underlying171
 have HB := Aside0.mk (Below.refl w.heap.size w)
 have H : (if a1 < 0 then (some (0, 0, 0, 0, 0, false)) else (some (a0, a1, 0, 0, 0, true))) = some (r1, r2, r3, r4, r5, r6) := h
 clear h
 by_cases c3 : a1 < 0
 ·
  rw [if_pos c3] at H
  have c3b0 := decide_eq_true c3
  clear c3
  simp only [Option.some.injEq, Prod.mk.injEq] at H
  obtain ⟨rfl, rfl, rfl, rfl, rfl, rfl⟩ := H
  go_enter Try.func83, Try.ntmps83
  go_wp2_with (first | ((with_reducible refine gate_dst (N := 4) rfl ?_); refine zzbx (N := 4) (cs := #[.int .i64 0, .int .i64 0, .int .i64 0, .int .u8 0, .int .u8 0]) (t := 171) ?_; intro gb156 hg w4 hbox hb; have n0_ := Aside0.mk (below_step zz20 hb); have n1_ := Aside0.mk (hbox); have n2_ := Aside0.mk ((by rw [hg]; exact (below_size zz20) : w.heap.size ≤ gb156)); have n3_ := n2_; clear HB; have HB := n0_; have BK156 := n1_; have GW156 := n2_; have GE156 := n3_; clear n0_ n1_ n2_ n3_; clear hb hbox hg; have hcz5_0 : w4.cell? ⟨gb156, 0, none⟩ = some (.int .i64 0) := (blk_cell BK156.out 0).trans rfl; have hcz5_1 : w4.cell? ⟨gb156, 1, none⟩ = some (.int .i64 0) := (blk_cell BK156.out 1).trans rfl; have hcz5_2 : w4.cell? ⟨gb156, 2, none⟩ = some (.int .i64 0) := (blk_cell BK156.out 2).trans rfl; have hcz5_3 : w4.cell? ⟨gb156, 3, none⟩ = some (.int .u8 0) := (blk_cell BK156.out 3).trans rfl; have hcz5_4 : w4.cell? ⟨gb156, 4, none⟩ = some (.int .u8 0) := (blk_cell BK156.out 4).trans rfl; have hfz5_0 := blk_frozen BK156.out 0; have hfz5_1 := blk_frozen BK156.out 1; have hfz5_2 := blk_frozen BK156.out 2; have hfz5_3 := blk_frozen BK156.out 3; have hfz5_4 := blk_frozen BK156.out 4))
  refine bodyPost_ret (results_ct rfl _ _ gb156 171 #[.int .i64 0, .int .i64 0, .int .i64 0, .int .u8 0, .int .u8 0] (0, 0) _ rfl (by (with_reducible repeat (first | refine blk_drewN ?_ _ | refine blk_drew ?_ | refine blk_alloc ?_ _)); refine blk_put (cs := #[.int .i64 0, .int .i64 0, .int .i64 0, .int .u8 0, .int .u8 0]) ?_ 4 _ rfl; (with_reducible repeat (first | refine blk_drewN ?_ _ | refine blk_drew ?_ | refine blk_alloc ?_ _)); refine blk_put (cs := #[.int .i64 0, .int .i64 0, .int .i64 0, .int .u8 0, .int .u8 0]) ?_ 3 _ rfl; (with_reducible repeat (first | refine blk_drewN ?_ _ | refine blk_drew ?_ | refine blk_alloc ?_ _)); refine blk_put (cs := #[.int .i64 0, .int .i64 0, .int .i64 0, .int .u8 0, .int .u8 0]) ?_ 2 _ rfl; (with_reducible repeat (first | refine blk_drewN ?_ _ | refine blk_drew ?_ | refine blk_alloc ?_ _)); refine blk_put (cs := #[.int .i64 0, .int .i64 0, .int .i64 0, .int .u8 0, .int .u8 0]) ?_ 1 _ rfl; (with_reducible repeat (first | refine blk_drewN ?_ _ | refine blk_drew ?_ | refine blk_alloc ?_ _)); refine blk_put (cs := #[.int .i64 0, .int .i64 0, .int .i64 0, .int .u8 0, .int .u8 0]) ?_ 0 _ rfl; (with_reducible repeat (first | refine blk_drewN ?_ _ | refine blk_drew ?_ | refine blk_alloc ?_ _)); exact BK156.out) Try.underlying171 rfl zz5) rfl ?_
  exact ⟨zz17, by repeat (first | (with_reducible first | exact HB.out | apply below_alloc | apply pw_below_drewN | apply below_drew1 | refine below_set ?_ GE156.out) | exact HB.out)⟩
 ·
  rw [if_neg c3] at H
  have c3b0 := decide_eq_false c3
  clear c3
  simp only [Option.some.injEq, Prod.mk.injEq] at H
  obtain ⟨rfl, rfl, rfl, rfl, rfl, rfl⟩ := H
  go_enter Try.func83, Try.ntmps83
  go_wp2_with (first | ((with_reducible refine gate_dst (N := 4) rfl ?_); refine zzbx (N := 4) (cs := #[.int .i64 0, .int .i64 0, .int .i64 0, .int .u8 0, .int .u8 0]) (t := 171) ?_; intro gb156 hg w6 hbox hb; have n0_ := Aside0.mk (below_step zz20 hb); have n1_ := Aside0.mk (hbox); have n2_ := Aside0.mk ((by rw [hg]; exact (below_size zz20) : w.heap.size ≤ gb156)); have n3_ := n2_; clear HB; have HB := n0_; have BK156 := n1_; have GW156 := n2_; have GE156 := n3_; clear n0_ n1_ n2_ n3_; clear hb hbox hg; have hcz7_0 : w6.cell? ⟨gb156, 0, none⟩ = some (.int .i64 0) := (blk_cell BK156.out 0).trans rfl; have hcz7_1 : w6.cell? ⟨gb156, 1, none⟩ = some (.int .i64 0) := (blk_cell BK156.out 1).trans rfl; have hcz7_2 : w6.cell? ⟨gb156, 2, none⟩ = some (.int .i64 0) := (blk_cell BK156.out 2).trans rfl; have hcz7_3 : w6.cell? ⟨gb156, 3, none⟩ = some (.int .u8 0) := (blk_cell BK156.out 3).trans rfl; have hcz7_4 : w6.cell? ⟨gb156, 4, none⟩ = some (.int .u8 0) := (blk_cell BK156.out 4).trans rfl; have hfz7_0 := blk_frozen BK156.out 0; have hfz7_1 := blk_frozen BK156.out 1; have hfz7_2 := blk_frozen BK156.out 2; have hfz7_3 := blk_frozen BK156.out 3; have hfz7_4 := blk_frozen BK156.out 4))
  refine bodyPost_ret (results_ct rfl _ _ gb156 171 #[.int .i64 a0, .int .i64 a1, .int .i64 0, .int .u8 0, .int .u8 0] (0, 0) _ rfl (by (with_reducible repeat (first | refine blk_drewN ?_ _ | refine blk_drew ?_ | refine blk_alloc ?_ _)); refine blk_put (cs := #[.int .i64 a0, .int .i64 a1, .int .i64 0, .int .u8 0, .int .u8 0]) ?_ 4 _ rfl; (with_reducible repeat (first | refine blk_drewN ?_ _ | refine blk_drew ?_ | refine blk_alloc ?_ _)); refine blk_put (cs := #[.int .i64 a0, .int .i64 a1, .int .i64 0, .int .u8 0, .int .u8 0]) ?_ 3 _ rfl; (with_reducible repeat (first | refine blk_drewN ?_ _ | refine blk_drew ?_ | refine blk_alloc ?_ _)); refine blk_put (cs := #[.int .i64 a0, .int .i64 a1, .int .i64 0, .int .u8 0, .int .u8 0]) ?_ 2 _ rfl; (with_reducible repeat (first | refine blk_drewN ?_ _ | refine blk_drew ?_ | refine blk_alloc ?_ _)); refine blk_put (cs := #[.int .i64 a0, .int .i64 0, .int .i64 0, .int .u8 0, .int .u8 0]) ?_ 1 _ rfl; (with_reducible repeat (first | refine blk_drewN ?_ _ | refine blk_drew ?_ | refine blk_alloc ?_ _)); refine blk_put (cs := #[.int .i64 0, .int .i64 0, .int .i64 0, .int .u8 0, .int .u8 0]) ?_ 0 _ rfl; (with_reducible repeat (first | refine blk_drewN ?_ _ | refine blk_drew ?_ | refine blk_alloc ?_ _)); exact BK156.out) Try.underlying171 rfl zz5) rfl ?_
  exact ⟨zz17, by repeat (first | (with_reducible first | exact HB.out | apply below_alloc | apply pw_below_drewN | apply below_drew1 | refine below_set ?_ GE156.out) | exact HB.out)⟩
def text_first.j0 : Nat → Int → Bool → Option (Int × Int × Int × Bool)
 | 0, _, _ => none
 | k + 1, x0, x9 => if x9 = true then (some (0, 0, 0, false)) else (if x0 < 224 then (some (1, 128, 191, true)) else (if x0 = 224 then (some (2, 160, 191, true)) else (if x0 = 237 then (some (2, 128, 159, true)) else (if x0 < 240 then (some (2, 128, 191, true)) else (if x0 = 240 then (some (3, 144, 191, true)) else (if x0 = 244 then (some (3, 128, 143, true)) else (some (3, 128, 191, true))))))))
def text_first.f (k : Nat) (a0 : Int) : Option (Int × Int × Int × Bool) := if a0 < 128 then (some (0, 128, 191, true)) else (if a0 < 194 then (text_first.j0 k a0 true) else (text_first.j0 k a0 (decide (a0 > 244))))
set_option maxHeartbeats 8000000 in
set_option maxRecDepth 100000 in
theorem text_first.calls (k : Nat) (a0 : Int) (r1 : Int) (r2 : Int) (r3 : Int) (r4 : Bool) (w : World) (h : text_first.f k a0 = some (r1, r2, r3, r4)) :
 Calls Try.prog 126 #[.int .u8 a0] w fun e w' => e = .returned (.tuple #[.int .i64 r1, .int .u8 r2, .int .u8 r3, .bool r4]) ∧ Drawn0 w w' := by
 have H : (if a0 < 128 then (some (0, 128, 191, true)) else (if a0 < 194 then (text_first.j0 k a0 true) else (text_first.j0 k a0 (decide (a0 > 244))))) = some (r1, r2, r3, r4) := h
 clear h
 by_cases c2 : a0 < 128
 ·
  rw [if_pos c2] at H
  have c2b0 := decide_eq_true c2
  clear c2
  simp only [Option.some.injEq, Prod.mk.injEq] at H
  obtain ⟨rfl, rfl, rfl, rfl⟩ := H
  go_enter Try.func126, Try.ntmps126
  go_wp2
  refine bodyPost_ret (results_list (rs := [.tmp 2, .tmp 3, .tmp 4, .tmp 5]) rfl zz19 (.tmp (.tmp (.tmp (.tmp .nil))))) rfl ?_
  exact ⟨zz0, zz6⟩
 ·
  rw [if_neg c2] at H
  have c2b0 := decide_eq_false c2
  clear c2
  have HC3 := Aside0.mk H
  clear H
  go_enter Try.func126, Try.ntmps126
  go_upto_region 3 with (fail)
  go_cut [9] (fun v9 wc => ∃ (kq : Nat) (x9_2 : Bool), v9 = .bool x9_2 ∧ Aside0 (text_first.j0 kq a0 x9_2 = some (r1, r2, r3, r4)) ∧ Aside0 (kq ≤ k) ∧ Drawn0 w wc)
  case first =>
   have H := HC3.out
   clear HC3
   by_cases c4 : a0 < 194
   ·
    rw [if_pos c4] at H
    have c4b0 := decide_eq_true c4
    clear c4
    (first | rw [c4b0] | (simp only [i64_w, i32_w]; rw [c4b0]) | skip)
    have H' := Aside0.mk H
    clear H
    go_wp2
    go_meet
    case rel => exact ⟨_, (true), zz0, H', ⟨by first | omega | exact Nat.le_refl _⟩, zz6⟩
   ·
    rw [if_neg c4] at H
    have c4b0 := decide_eq_false c4
    clear c4
    (first | rw [c4b0] | (simp only [i64_w, i32_w]; rw [c4b0]) | skip)
    have H' := Aside0.mk H
    clear H
    go_wp2
    go_meet
    case rel => exact ⟨_, (decide (a0 > 244)), zz0, H', ⟨by first | omega | exact Nat.le_refl _⟩, zz6⟩
  case rest =>
   clear HC3
   try clear c2b0
   obtain ⟨kq, x9_2, rfl, HA, HJ2, ⟨mc2, rfl⟩⟩ := hcut
   cases kq with
   | zero => exact absurd HA.out (by simp [text_first.j0])
   | succ kj2 =>
     have H := HA.out
     clear HA
     simp only [text_first.j0] at H
     by_cases c5 : x9_2 = true
     ·
      subst c5
      rw [if_pos rfl] at H
      simp only [Option.some.injEq, Prod.mk.injEq] at H
      obtain ⟨rfl, rfl, rfl, rfl⟩ := H
      go_wp2
      refine bodyPost_ret (results_list (rs := [.tmp 2, .tmp 3, .tmp 4, .tmp 5]) rfl zz19 (.tmp (.tmp (.tmp (.tmp .nil))))) rfl ?_
      exact ⟨zz0, zz6⟩
     ·
      replace c5 := Bool.eq_false_iff.mpr c5
      subst c5
      rw [if_neg (show ¬ (false = true) by decide)] at H
      by_cases c6 : a0 < 224
      ·
       rw [if_pos c6] at H
       have c6b0 := decide_eq_true c6
       clear c6
       simp only [Option.some.injEq, Prod.mk.injEq] at H
       obtain ⟨rfl, rfl, rfl, rfl⟩ := H
       go_wp2
       refine bodyPost_ret (results_list (rs := [.tmp 2, .tmp 3, .tmp 4, .tmp 5]) rfl zz19 (.tmp (.tmp (.tmp (.tmp .nil))))) rfl ?_
       exact ⟨zz0, zz6⟩
      ·
       rw [if_neg c6] at H
       have c6b0 := decide_eq_false c6
       clear c6
       by_cases c7 : a0 = 224
       ·
        rw [if_pos c7] at H
        have c7b0 := beq_iff_eq.mpr c7
        have c7b1 := bne_eq_false_iff_eq.mpr c7
        clear c7
        simp only [Option.some.injEq, Prod.mk.injEq] at H
        obtain ⟨rfl, rfl, rfl, rfl⟩ := H
        go_wp2
        refine bodyPost_ret (results_list (rs := [.tmp 2, .tmp 3, .tmp 4, .tmp 5]) rfl zz19 (.tmp (.tmp (.tmp (.tmp .nil))))) rfl ?_
        exact ⟨zz0, zz6⟩
       ·
        rw [if_neg c7] at H
        have c7b0 := beq_eq_false_iff_ne.mpr c7
        have c7b1 := bne_iff_ne.mpr c7
        by_cases c8 : a0 = 237
        ·
         rw [if_pos c8] at H
         have c8b0 := beq_iff_eq.mpr c8
         have c8b1 := bne_eq_false_iff_eq.mpr c8
         clear c8
         simp only [Option.some.injEq, Prod.mk.injEq] at H
         obtain ⟨rfl, rfl, rfl, rfl⟩ := H
         go_wp2
         refine bodyPost_ret (results_list (rs := [.tmp 2, .tmp 3, .tmp 4, .tmp 5]) rfl zz19 (.tmp (.tmp (.tmp (.tmp .nil))))) rfl ?_
         exact ⟨zz0, zz6⟩
        ·
         rw [if_neg c8] at H
         have c8b0 := beq_eq_false_iff_ne.mpr c8
         have c8b1 := bne_iff_ne.mpr c8
         by_cases c9 : a0 < 240
         ·
          rw [if_pos c9] at H
          have c9b0 := decide_eq_true c9
          clear c9
          simp only [Option.some.injEq, Prod.mk.injEq] at H
          obtain ⟨rfl, rfl, rfl, rfl⟩ := H
          go_wp2
          refine bodyPost_ret (results_list (rs := [.tmp 2, .tmp 3, .tmp 4, .tmp 5]) rfl zz19 (.tmp (.tmp (.tmp (.tmp .nil))))) rfl ?_
          exact ⟨zz0, zz6⟩
         ·
          rw [if_neg c9] at H
          have c9b0 := decide_eq_false c9
          clear c9
          by_cases c10 : a0 = 240
          ·
           rw [if_pos c10] at H
           have c10b0 := beq_iff_eq.mpr c10
           have c10b1 := bne_eq_false_iff_eq.mpr c10
           clear c10
           simp only [Option.some.injEq, Prod.mk.injEq] at H
           obtain ⟨rfl, rfl, rfl, rfl⟩ := H
           go_wp2
           refine bodyPost_ret (results_list (rs := [.tmp 2, .tmp 3, .tmp 4, .tmp 5]) rfl zz19 (.tmp (.tmp (.tmp (.tmp .nil))))) rfl ?_
           exact ⟨zz0, zz6⟩
          ·
           rw [if_neg c10] at H
           have c10b0 := beq_eq_false_iff_ne.mpr c10
           have c10b1 := bne_iff_ne.mpr c10
           by_cases c11 : a0 = 244
           ·
            rw [if_pos c11] at H
            have c11b0 := beq_iff_eq.mpr c11
            have c11b1 := bne_eq_false_iff_eq.mpr c11
            clear c11
            simp only [Option.some.injEq, Prod.mk.injEq] at H
            obtain ⟨rfl, rfl, rfl, rfl⟩ := H
            go_wp2
            refine bodyPost_ret (results_list (rs := [.tmp 2, .tmp 3, .tmp 4, .tmp 5]) rfl zz19 (.tmp (.tmp (.tmp (.tmp .nil))))) rfl ?_
            exact ⟨zz0, zz6⟩
           ·
            rw [if_neg c11] at H
            have c11b0 := beq_eq_false_iff_ne.mpr c11
            have c11b1 := bne_iff_ne.mpr c11
            simp only [Option.some.injEq, Prod.mk.injEq] at H
            obtain ⟨rfl, rfl, rfl, rfl⟩ := H
            go_wp2
            refine bodyPost_ret (results_list (rs := [.tmp 2, .tmp 3, .tmp 4, .tmp 5]) rfl zz19 (.tmp (.tmp (.tmp (.tmp .nil))))) rfl ?_
            exact ⟨zz0, zz6⟩
end Go.Proofs.Ytcfommconnlhgaa.PC
namespace Go.Proofs.Ytcfommconnlhgaa.PC
open Own Sl
open RowKit YtcfommconnlhgaaW.PrintWords YtcfommconnlhgaaW.PrintLast YtcfommconnlhgaaW.PrintMore
attribute [local go_sem] max2_int min2_int max_two min_two max_three min_three max_four min_four
set_option linter.unusedVariables false
set_option linter.unusedSimpArgs false
def text_State_utf8.j0 : Nat → Bool → Int → Int → Int → Int → Int → Option (Int × Int × Int × Int × Int × Bool)
 | 0, _, _, _, _, _, _ => none
 | k + 1, x19, x158000, x158001, x158002, x158003, x158004 => if x19 = true then (some (0, 0, 0, 0, 0, false)) else (some (x158000, x158001, wrap64 (x158002 - 1), 128, 191, true))
def text_State_utf8.f (k : Nat) (a0_0 : Int) (a0_1 : Int) (a0_2 : Int) (a0_3 : Int) (a0_4 : Int) (a1 : Int) : Option (Int × Int × Int × Int × Int × Bool) := if a0_2 > 0 then (if a1 < a0_3 then (text_State_utf8.j0 k true a0_0 a0_1 a0_2 a0_3 a0_4) else (text_State_utf8.j0 k (decide (a1 > a0_4)) a0_0 a0_1 a0_2 a0_3 a0_4)) else ((text_first.f k a1).bind fun bt159 => (if bt159.2.2.2 = true then (if bt159.1 > a0_1 then (some (0, 0, 0, 0, 0, false)) else (some (a0_0, a0_1, bt159.1, bt159.2.1, bt159.2.2.1, true))) else (some (0, 0, 0, 0, 0, false))))
set_option maxHeartbeats 8000000 in
set_option maxRecDepth 100000 in
theorem text_State_utf8.calls (k : Nat) (a0_0 : Int) (a0_1 : Int) (a0_2 : Int) (a0_3 : Int) (a0_4 : Int) (a1 : Int) (r1 : Int) (r2 : Int) (r3 : Int) (r4 : Int) (r5 : Int) (r6 : Bool) (w : World) (h : text_State_utf8.f k a0_0 a0_1 a0_2 a0_3 a0_4 a1 = some (r1, r2, r3, r4, r5, r6)) :
 Calls Try.prog 124 #[.agg #[.int .i64 a0_0, .int .i64 a0_1, .int .i64 a0_2, .int .u8 a0_3, .int .u8 a0_4], .int .u8 a1] w fun e w' => e = .returned (.tuple #[.agg #[.int .i64 r1, .int .i64 r2, .int .i64 r3, .int .u8 r4, .int .u8 r5], .bool r6]) ∧ Below w.heap.size w w' := by
 have hS := Sp.nil (w := w) (S := None0)
 have hu := Try.underlying171
 obtain ⟨x, hx⟩ : ∃ x, wrap64 (a0_2 - 1) = x := ⟨_, rfl⟩
 have hx2 : IntKind.i64.wrap (a0_2 - 1) = x := by rw [← hx]; exact i64_w _
 unfold text_State_utf8.f at h
 cases c1 : decide (0 < a0_2)
 case' true =>
  have d1 := of_decide_eq_true c1
  rw [if_pos d1] at h
  rcases k with _ | k
  ·
   simp [text_State_utf8.j0] at h
  simp only [text_State_utf8.j0, hx] at h
  cases c2 : decide (a1 < a0_3) <;> cases c3 : decide (a0_4 < a1)
 case' false =>
  have d1 := of_decide_eq_false c1
  rw [if_neg d1] at h
  obtain ⟨⟨m, lo, hi, ok⟩, hm, h⟩ := Option.bind_eq_some_iff.1 h
  have HM := Aside0.mk (fun W => text_first.calls k a1 m lo hi ok W hm)
  cases ok <;> cases c4 : decide (a0_1 < m)
 all_goals
  try have d2 := of_decide_eq_true c2
  try have d2 := of_decide_eq_false c2
  try have d4 := of_decide_eq_true c4
  try have d4 := of_decide_eq_false c4
  first
   | simp only [d2, c3, gt_iff_lt, if_true, if_false, Bool.false_eq_true, Option.some.injEq, Prod.mk.injEq, reduceIte] at h
   | simp only [d4, gt_iff_lt, if_true, if_false, Bool.false_eq_true, Option.some.injEq, Prod.mk.injEq, reduceIte] at h
  obtain ⟨rfl, rfl, rfl, rfl, rfl, rfl⟩ := h
  clear hx d1
  try clear d2
  try clear d4
  try clear hm
  go_enter Try.func124, Try.ntmps124
  go_wp2_with (first
   | ((with_reducible refine gate_dst (N := 2) rfl ?_)
      refine sp_box hS rfl (N := 2) rfl _ 171 zz1 ?_
      intro g2 w2 hg2 hS)
   | ((with_reducible refine gate_dst (N := 4) rfl ?_)
      refine sp_box hS rfl (N := 4) rfl _ 171 zz1 ?_
      intro g4 w4 hg4 hS
      obtain ⟨j0, j1, j2, j3, j4⟩ := hS.cells5 1)
   | ((with_reducible refine gate_store (t := 171) (p := 4) (v := .tmp 20) rfl ?_)
      refine sp_row hS 0 rfl 171 (.tmp 4) (.tmp 20) rfl rfl g4 _ rfl rfl 171 _ rfl zz5 rfl zz16 rfl ?_
      intro w20 hS)
   | ((with_reducible refine gate_store (t := 171) (p := 4) (v := .tmp 27) rfl ?_)
      refine sp_row hS 0 rfl 171 (.tmp 4) (.tmp 27) rfl rfl g4 _ rfl rfl 171 _ rfl zz5 rfl zz16 rfl ?_
      intro w27 hS)
   | ((with_reducible refine gate_store (t := 171) (p := 4) (v := .tmp 47) rfl ?_)
      refine sp_row hS 0 rfl 171 (.tmp 4) (.tmp 47) rfl rfl g4 _ rfl rfl 171 _ rfl zz5 rfl zz16 rfl ?_
      intro w47 hS)
   | ((with_reducible refine gate_store (t := 171) (p := 4) (v := .tmp 48) rfl ?_)
      refine sp_row hS 0 rfl 171 (.tmp 4) (.tmp 48) rfl rfl g4 _ rfl rfl 171 _ rfl zz5 rfl zz16 rfl ?_
      intro w48 hS)
   | ((with_reducible refine gate_store (t := 3) (p := 24) (v := .tmp 23) rfl ?_)
      refine sp_cell hS 1 rfl 3 (.tmp 24) (.tmp 23) rfl rfl g2 2 (.int .i64 _) rfl rfl 171 _ _ rfl zz5 zz19 rfl rfl rfl ?_
      clear j0 j1 j2 j3 j4
      intro w24 hS
      obtain ⟨j0, j1, j2, j3, j4⟩ := hS.cells5 1)
   | ((with_reducible refine gate_store (t := 5) (p := 25) (v := .const (.int .u8 128)) rfl ?_)
      refine sp_cell hS 1 rfl 5 (.tmp 25) (.const (.int .u8 128)) rfl rfl g2 3 (.int .u8 128) rfl rfl 171 _ _ rfl zz5 zz19 rfl rfl rfl ?_
      clear j0 j1 j2 j3 j4
      intro w25 hS
      obtain ⟨j0, j1, j2, j3, j4⟩ := hS.cells5 1)
   | ((with_reducible refine gate_store (t := 5) (p := 26) (v := .const (.int .u8 191)) rfl ?_)
      refine sp_cell hS 1 rfl 5 (.tmp 26) (.const (.int .u8 191)) rfl rfl g2 4 (.int .u8 191) rfl rfl 171 _ _ rfl zz5 zz19 rfl rfl rfl ?_
      clear j0 j1 j2 j3 j4
      intro w26 hS
      obtain ⟨j0, j1, j2, j3, j4⟩ := hS.cells5 1)
   | ((with_reducible refine gate_store (t := 3) (p := 35) (v := .tmp 31) rfl ?_)
      refine sp_cell hS 1 rfl 3 (.tmp 35) (.tmp 31) rfl rfl g2 2 (.int .i64 _) rfl rfl 171 _ _ rfl zz5 zz19 rfl rfl rfl ?_
      clear j0 j1 j2 j3 j4
      intro w35 hS
      obtain ⟨j0, j1, j2, j3, j4⟩ := hS.cells5 1)
   | ((with_reducible refine gate_store (t := 5) (p := 36) (v := .tmp 32) rfl ?_)
      refine sp_cell hS 1 rfl 5 (.tmp 36) (.tmp 32) rfl rfl g2 3 (.int .u8 _) rfl rfl 171 _ _ rfl zz5 zz19 rfl rfl rfl ?_
      clear j0 j1 j2 j3 j4
      intro w36 hS
      obtain ⟨j0, j1, j2, j3, j4⟩ := hS.cells5 1)
   | ((with_reducible refine gate_store (t := 5) (p := 37) (v := .tmp 33) rfl ?_)
      refine sp_cell hS 1 rfl 5 (.tmp 37) (.tmp 33) rfl rfl g2 4 (.int .u8 _) rfl rfl 171 _ _ rfl zz5 zz19 rfl rfl rfl ?_
      clear j0 j1 j2 j3 j4
      intro w37 hS
      obtain ⟨j0, j1, j2, j3, j4⟩ := hS.cells5 1)
   | (go_at_call 126
      (with_reducible refine (HM.out _).mono ?_)
      rintro e wm ⟨rfl, hq⟩
      replace hS := hS.toN (dr hq)
      clear j0 j1 j2 j3 j4
      obtain ⟨j0, j1, j2, j3, j4⟩ := hS.cells5 1))
  refine bodyPost_ret (results_ct rfl _ _ g4 171 _ (0, 0) _ rfl (hS.blk 0) Try.underlying171 rfl zz5) rfl ?_
  exact ⟨by first | rfl | simp, (Sp.u zz25).below0⟩
def strings_IndexByte.f (a0 : ByteArray) (a1 : Int) : Option (Int) := some (Lib.indexByte a0.data.toList a1.toNat.toUInt8)
theorem strings_IndexByte.calls (a0 : ByteArray) (a1 : Int) (r : Int) (w : World) (h : strings_IndexByte.f a0 a1 = some r) :
 Calls Try.prog 125 #[.string a0, .int .u8 a1] w fun e w' => e = .returned (.int .i64 r) ∧ Drawn0 w w' := by
 unfold strings_IndexByte.f at h
 obtain rfl := Option.some.inj h
 exact (Try.strings_IndexByte a0 a1 w).mono fun e w' ⟨he, hw⟩ => ⟨he, hw ▸ Drawn0.refl w⟩
def text_State_Push.f (k : Nat) (a0_0 : Int) (a0_1 : Int) (a0_2 : Int) (a0_3 : Int) (a0_4 : Int) (a1 : Int) : Option (Int × Int × Int × Int × Int × Bool) := if a0_0 = 12 then ((text_State_utf8.f k a0_0 (wrap64 (a0_1 - 1)) a0_2 a0_3 a0_4 a1).bind fun bt165 => (some (bt165.1, bt165.2.1, bt165.2.2.1, bt165.2.2.2.1, bt165.2.2.2.2.1, bt165.2.2.2.2.2))) else (if a0_0 = 19 then ((strings_IndexByte.f (⟨#[65, 66, 67, 68, 69, 70, 71, 72, 73, 74, 75, 76, 77, 78, 79, 80, 81, 82, 83, 84, 85, 86, 87, 88, 89, 90, 97, 98, 99, 100, 101, 102, 103, 104, 105, 106, 107, 108, 109, 110, 111, 112, 113, 114, 115, 116, 117, 118, 119, 120, 121, 122, 48, 49, 50, 51, 52, 53, 54, 55, 56, 57, 32, 39, 40, 41, 43, 44, 45, 46, 47, 58, 61, 63]⟩ : ByteArray) a1).bind fun t171 => (if t171 ≥ 0 then (some (a0_0, wrap64 (a0_1 - 1), a0_2, a0_3, a0_4, true)) else (some (0, 0, 0, 0, 0, false)))) else (if a0_0 = 22 then (if a1 < 128 then (some (a0_0, wrap64 (a0_1 - 1), a0_2, a0_3, a0_4, true)) else (some (0, 0, 0, 0, 0, false))) else (some (a0_0, wrap64 (a0_1 - 1), a0_2, a0_3, a0_4, true))))
set_option maxHeartbeats 8000000 in
set_option maxRecDepth 100000 in
theorem text_State_Push.calls (k : Nat) (a0_0 : Int) (a0_1 : Int) (a0_2 : Int) (a0_3 : Int) (a0_4 : Int) (a1 : Int) (r1 : Int) (r2 : Int) (r3 : Int) (r4 : Int) (r5 : Int) (r6 : Bool) (w : World) (h : text_State_Push.f k a0_0 a0_1 a0_2 a0_3 a0_4 a1 = some (r1, r2, r3, r4, r5, r6)) :
 Calls Try.prog 123 #[.agg #[.int .i64 a0_0, .int .i64 a0_1, .int .i64 a0_2, .int .u8 a0_3, .int .u8 a0_4], .int .u8 a1] w fun e w' => e = .returned (.tuple #[.agg #[.int .i64 r1, .int .i64 r2, .int .i64 r3, .int .u8 r4, .int .u8 r5], .bool r6]) ∧ Below w.heap.size w w' := by
 have hS := Sp.nil (w := w) (S := None0)
 have hu := Try.underlying171
 have eb : ∀ a b : Int, (a = b) = ((a == b) = true) := fun a b => by simp
 obtain ⟨x, hx⟩ : ∃ x, wrap64 (a0_1 - 1) = x := ⟨_, rfl⟩
 have hx2 : IntKind.i64.wrap (a0_1 - 1) = x := by rw [← hx]; exact i64_w _
 unfold text_State_Push.f at h
 rw [hx] at h
 cases c1 : (a0_0 == 12) <;> cases c2 : (a0_0 == 19) <;> cases c3 : (a0_0 == 22)
 all_goals
  try (exfalso; clear hx hx2 h; simp only [beq_iff_eq, beq_eq_false_iff_ne, ne_eq] at *; omega)
 all_goals
  simp only [eb a0_0 12, eb a0_0 19, eb a0_0 22, c1, c2, c3, if_true, if_false, Bool.false_eq_true, reduceIte] at h
  try
   obtain ⟨⟨q1, q2, q3, q4, q5, q6⟩, hm, h⟩ := Option.bind_eq_some_iff.1 h
   have HM := Aside0.mk (fun W => text_State_utf8.calls k a0_0 x a0_2 a0_3 a0_4 a1 q1 q2 q3 q4 q5 q6 W hm)
   clear hm
  try
   obtain ⟨t, hm, h⟩ := Option.bind_eq_some_iff.1 h
   have HI := Aside0.mk (fun W => strings_IndexByte.calls _ a1 t W hm)
   clear hm
   cases c4 : decide (0 ≤ t)
  try cases c5 : decide (a1 < 128)
 all_goals
  try have d4 := of_decide_eq_true c4
  try have d4 := of_decide_eq_false c4
  try have d5 := of_decide_eq_true c5
  try have d5 := of_decide_eq_false c5
  first
   | simp only [d4, ge_iff_le, if_true, if_false, Option.some.injEq, Prod.mk.injEq, reduceIte] at h
   | simp only [d5, if_true, if_false, Option.some.injEq, Prod.mk.injEq, reduceIte] at h
   | simp only [Option.some.injEq, Prod.mk.injEq] at h
  obtain ⟨rfl, rfl, rfl, rfl, rfl, rfl⟩ := h
  clear hx eb
  try clear d4
  try clear d5
  go_enter Try.func123, Try.ntmps123
  go_wp2_with (first
   | ((with_reducible refine gate_dst (N := 2) rfl ?_)
      refine sp_box hS rfl (N := 2) rfl _ 171 zz1 ?_
      intro g2 w2 hg2 hS)
   | ((with_reducible refine gate_dst (N := 4) rfl ?_)
      refine sp_box hS rfl (N := 4) rfl _ 171 zz1 ?_
      intro g4 w4 hg4 hS
      obtain ⟨j0, j1, j2, j3, j4⟩ := hS.cells5 1)
   | ((with_reducible refine gate_store (t := 3) (p := 10) (v := .tmp 9) rfl ?_)
      refine sp_cell hS 1 rfl 3 (.tmp 10) (.tmp 9) rfl rfl g2 1 (.int .i64 _) rfl rfl 171 _ _ rfl zz5 zz19 rfl rfl rfl ?_
      clear j0 j1 j2 j3 j4
      intro w10 hS
      obtain ⟨j0, j1, j2, j3, j4⟩ := hS.cells5 1)
   | (go_at_call 124
      (with_reducible refine (HM.out _).mono ?_)
      rintro e wm ⟨rfl, hq⟩
      replace hS := hS.toN ((Upd.of_below hq : Upd None0 _ wm))
      clear j0 j1 j2 j3 j4
      obtain ⟨j0, j1, j2, j3, j4⟩ := hS.cells5 1)
   | (go_at_call 125
      (with_reducible refine (HI.out _).mono ?_)
      rintro e wm ⟨rfl, hq⟩
      replace hS := hS.toN (dr hq)
      clear j0 j1 j2 j3 j4
      obtain ⟨j0, j1, j2, j3, j4⟩ := hS.cells5 1)
   | ((with_reducible refine gate_store (t := 171) (p := 4) (v := .tmp 18) rfl ?_)
      refine sp_row hS 0 rfl 171 (.tmp 4) (.tmp 18) rfl rfl g4 _ rfl rfl 171 _ rfl zz5 rfl zz16 rfl ?_
      intro w18 hS)
   | ((with_reducible refine gate_store (t := 171) (p := 4) (v := .tmp 31) rfl ?_)
      refine sp_row hS 0 rfl 171 (.tmp 4) (.tmp 31) rfl rfl g4 _ rfl rfl 171 _ rfl zz5 rfl zz16 rfl ?_
      intro w31 hS)
   | ((with_reducible refine gate_store (t := 171) (p := 4) (v := .tmp 32) rfl ?_)
      refine sp_row hS 0 rfl 171 (.tmp 4) (.tmp 32) rfl rfl g4 _ rfl rfl 171 _ rfl zz5 rfl zz16 rfl ?_
      intro w32 hS))
  refine bodyPost_ret (results_ct rfl _ _ g4 171 _ (0, 0) _ rfl (hS.blk 0) Try.underlying171 rfl zz5) rfl ?_
  exact ⟨by first | rfl | simp, (Sp.u zz25).below0⟩
end Go.Proofs.Ytcfommconnlhgaa.PC
