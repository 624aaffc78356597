/- What the row of GrammarFront stands on, made small by a program of this session (pack.py). -/
import Derived.Test.YtcfommconnlhgaaCGrammarFront2
import Derived.Test.YtcfommconnlhgaaCGrammarFront4
import Derived.Test.YtcfommconnlhgaaCGrammarFront5
namespace Go.Proofs.Ytcfommconnlhgaa.PC
open RowKit YtcfommconnlhgaaW.PrintWords YtcfommconnlhgaaW.PrintLast YtcfommconnlhgaaW.PrintMore
attribute [local go_sem] max2_int min2_int max_two min_two max_three min_three max_four min_four
set_option linter.unusedVariables false
set_option linter.unusedSimpArgs false
mutual
def ident_Get.j0 : Nat → ByteArray → Int → Bool → Option (Int × Int × Bool × Int × Int × Int)
 | 0, _, _, _ => none
 | k + 1, x0, x1, x17 => if x17 = true then (some (0, 0, false, 0, 0, 1)) else (if x1 = (x0.size : Int) then (some (0, 0, false, 0, x1, 2)) else (if 0 ≤ x1 then (if x1 < (x0.size : Int) then (if (wrap64 (Go.bits .and .u8 (bt x0 x1) 31)) < 31 then (some (wrap64 ((bt x0 x1) / 64), wrap64 (Go.bits .and .u8 (bt x0 x1) 31), ((Go.bits .and .u8 (bt x0 x1) 32) != 0), 0, wrap64 (x1 + 1), 0)) else (ident_Get.l0 k x0 x1 0 (wrap64 (x1 + 1)) (wrap64 ((bt x0 x1) / 64)) (wrap64 (Go.bits .and .u8 (bt x0 x1) 31)) ((Go.bits .and .u8 (bt x0 x1) 32) != 0) 0)) else (none)) else (none)))
def ident_Get.l0 : Nat → ByteArray → Int → Int → Int → Int → Int → Bool → Int → Option (Int × Int × Bool × Int × Int × Int)
 | 0, _, _, _, _, _, _, _, _ => none
 | k + 1, x0, x1, x8, x9, x104000, x104001, x104002, x104003 => if x9 < (x0.size : Int) then (if x9 = (wrap64 (x1 + 1)) then (if 0 ≤ x9 then (ident_Get.j2 k x0 x1 x8 x9 ((bt x0 x9) == 128) x104000 x104001 x104002 x104003) else (none)) else (ident_Get.j2 k x0 x1 x8 x9 false x104000 x104001 x104002 x104003)) else (some (0, 0, false, 0, (x0.size : Int), 2))
def ident_Get.j2 : Nat → ByteArray → Int → Int → Int → Bool → Int → Int → Bool → Int → Option (Int × Int × Bool × Int × Int × Int)
 | 0, _, _, _, _, _, _, _, _, _ => none
 | k + 1, x0, x1, x8, x9, x64, x104000, x104001, x104002, x104003 => if x64 = true then (some (0, 0, false, 0, x9, 3)) else (if 0 ≤ x9 then (if x9 < (x0.size : Int) then (if (Go.bits .or .i64 (wrap64 (x8 * 128)) (wrap64 (Go.bits .and .u8 (bt x0 x9) 127))) > 268435455 then (some (0, 0, false, 0, x9, 3)) else (if (bt x0 x9) ≥ 128 then (ident_Get.l0 k x0 x1 (Go.bits .or .i64 (wrap64 (x8 * 128)) (wrap64 (Go.bits .and .u8 (bt x0 x9) 127))) (wrap64 (x9 + 1)) x104000 x104001 x104002 x104003) else (if (Go.bits .or .i64 (wrap64 (x8 * 128)) (wrap64 (Go.bits .and .u8 (bt x0 x9) 127))) < 31 then (some (0, 0, false, 0, x9, 3)) else (some (x104000, Go.bits .or .i64 (wrap64 (x8 * 128)) (wrap64 (Go.bits .and .u8 (bt x0 x9) 127)), x104002, x104003, wrap64 (x9 + 1), 0))))) else (none)) else (none))
end
def ident_Get.f (k : Nat) (a0 : ByteArray) (a1 : Int) : Option (Int × Int × Bool × Int × Int × Int) := if a1 < 0 then (ident_Get.j0 k a0 a1 true) else (ident_Get.j0 k a0 a1 (decide (a1 > (a0.size : Int))))
def ident_Get.T5 : Bool × List (List Nat × List Nat) := (true, [([], []), ([], []), ([0, 1], [0, 1]), ([2], [2]), ([3], [3]), ([], []), ([], []), ([5, 6], [5, 6]), ([7], [7]), ([8], [8]), ([], []), ([], []), ([10, 11], [10, 11]), ([12], [12]), ([13], [13]), ([4, 9, 14], [4, 9, 14]), ([], []), ([16, 15, 0, 1, 2, 3, 4, 5, 6, 7, 8, 9, 10, 11, 12, 13, 14, 15, 16], [15, 16])])
def ident_Get.B5 : List Nat := [0, 0, 3, 7, 15, 0, 0, 96, 224, 480, 0, 0, 3072, 7168, 15360, 32767, 0, 131071]
theorem ident_Get.tab5 : rtab .any (opsOf Try.f94 5) = ident_Get.T5 := by kernel_rfl
theorem ident_Get.bits5 : waitsOk ident_Get.T5.2 ident_Get.B5 = true := by kernel_rfl
set_option maxHeartbeats 8000000 in
set_option maxRecDepth 100000 in
theorem ident_Get.calls (k : Nat) (a0 : ByteArray) (a1 : Int) (r1 : Int) (r2 : Int) (r3 : Bool) (r4 : Int) (r5 : Int) (r6 : Int) (w : World) (h : ident_Get.f k a0 a1 = some (r1, r2, r3, r4, r5, r6)) :
 Calls Try.prog 94 #[.string a0, .int .i64 a1] w fun e w' => e = .returned (.tuple #[.agg #[.int .i64 r1, .int .i64 r2, .bool r3, .int .i64 r4], .int .i64 r5, .int .i64 r6]) ∧ Below w.heap.size w w' := by
 have hu32 := Try.underlying32
 have HB := Aside0.mk (Below.refl w.heap.size w)
 have H : (if a1 < 0 then (ident_Get.j0 k a0 a1 true) else (ident_Get.j0 k a0 a1 (decide (a1 > (a0.size : Int))))) = some (r1, r2, r3, r4, r5, r6) := h
 clear h
 have HC3 := Aside0.mk H
 clear H
 go_enter Try.func94, Try.ntmps94
 go_upto_region 1 with (first | ((with_reducible refine gate_dst (N := 4) rfl ?_); (try (refine gate_guard (by rfl) ?_; dsimp only)); refine zzbx (N := 4) (cs := #[.int .i64 0, .int .i64 0, .bool false, .int .i64 0]) (t := 32) ?_; intro gb102 hg w4 hbox hb; have n0_ := Aside0.mk (below_step zz20 hb); have n1_ := Aside0.mk (hbox); have n2_ := Aside0.mk ((by rw [hg]; exact (below_size zz20) : w.heap.size ≤ gb102)); have n3_ := n2_; clear HB; have HB := n0_; have BK102 := n1_; have GW102 := n2_; have GE102 := n3_; clear n0_ n1_ n2_ n3_; clear hb hbox hg))
 (try simp only [Act.put, List.setIfInBounds_toArray, List.set_cons_zero, List.set_cons_succ])
 go_cut [17] (fun v17 wc => ∃ (kq : Nat) (x17_2 : Bool), v17 = .bool x17_2 ∧ Aside0 (ident_Get.j0 kq a0 a1 x17_2 = some (r1, r2, r3, r4, r5, r6)) ∧ Aside0 (kq ≤ k) ∧ Aside0 (wc.heap[gb102]? = some (.cells #[.int .i64 0, .int .i64 0, .bool false, .int .i64 0] 32 (0, 0))) ∧ Aside0 (Below w.heap.size w wc))
 case first =>
  have H := HC3.out
  clear HC3
  by_cases c5 : a1 < 0
  ·
   rw [if_pos c5] at H
   have c5b0 := decide_eq_true c5
   clear c5
   (first | rw [c5b0] | (simp only [i64_w, i32_w]; rw [c5b0]) | skip)
   have H' := Aside0.mk H
   clear H
   go_wp2
   go_meet
   case rel => exact ⟨_, (true), zz0, H', ⟨by first | omega | exact Nat.le_refl _⟩, ⟨zz14⟩, ⟨zz12⟩⟩
  ·
   rw [if_neg c5] at H
   have c5b0 := decide_eq_false c5
   clear c5
   (first | rw [c5b0] | (simp only [i64_w, i32_w]; rw [c5b0]) | skip)
   have H' := Aside0.mk H
   clear H
   go_wp2
   go_meet
   case rel => exact ⟨_, (decide (a1 > (a0.size : Int))), zz0, H', ⟨by first | omega | exact Nat.le_refl _⟩, ⟨zz14⟩, ⟨zz12⟩⟩
 case rest =>
  clear HC3
  obtain ⟨kq, x17_2, rfl, HA, HJ2, BK102, HB⟩ := hcut
  cases kq with
  | zero => exact absurd HA.out (by simp [ident_Get.j0])
  | succ kj2 =>
    have H := HA.out
    clear HA
    simp only [ident_Get.j0] at H
    by_cases c6 : x17_2 = true
    ·
     subst c6
     rw [if_pos rfl] at H
     simp only [Option.some.injEq, Prod.mk.injEq] at H
     obtain ⟨rfl, rfl, rfl, rfl, rfl, rfl⟩ := H
     have hcz7_0 : wc.cell? ⟨gb102, 0, none⟩ = some (.int .i64 0) := (blk_cell BK102.out 0).trans rfl
     have hcz7_1 : wc.cell? ⟨gb102, 1, none⟩ = some (.int .i64 0) := (blk_cell BK102.out 1).trans rfl
     have hcz7_2 : wc.cell? ⟨gb102, 2, none⟩ = some (.bool false) := (blk_cell BK102.out 2).trans rfl
     have hcz7_3 : wc.cell? ⟨gb102, 3, none⟩ = some (.int .i64 0) := (blk_cell BK102.out 3).trans rfl
     have hfz7_0 := blk_frozen BK102.out 0
     have hfz7_1 := blk_frozen BK102.out 1
     have hfz7_2 := blk_frozen BK102.out 2
     have hfz7_3 := blk_frozen BK102.out 3
     go_wp2
     refine bodyPost_ret (results_ctt rfl _ _ gb102 32 #[.int .i64 0, .int .i64 0, .bool false, .int .i64 0] (0, 0) _ rfl (by (with_reducible repeat (first | refine blk_drewN ?_ _ | refine blk_drew ?_ | refine blk_alloc ?_ _)); refine blk_put (cs := #[.int .i64 0, .int .i64 0, .bool false, .int .i64 0]) ?_ 3 _ rfl; (with_reducible repeat (first | refine blk_drewN ?_ _ | refine blk_drew ?_ | refine blk_alloc ?_ _)); refine blk_put (cs := #[.int .i64 0, .int .i64 0, .bool false, .int .i64 0]) ?_ 2 _ rfl; (with_reducible repeat (first | refine blk_drewN ?_ _ | refine blk_drew ?_ | refine blk_alloc ?_ _)); refine blk_put (cs := #[.int .i64 0, .int .i64 0, .bool false, .int .i64 0]) ?_ 1 _ rfl; (with_reducible repeat (first | refine blk_drewN ?_ _ | refine blk_drew ?_ | refine blk_alloc ?_ _)); refine blk_put (cs := #[.int .i64 0, .int .i64 0, .bool false, .int .i64 0]) ?_ 0 _ rfl; (with_reducible repeat (first | refine blk_drewN ?_ _ | refine blk_drew ?_ | refine blk_alloc ?_ _)); exact BK102.out) Try.underlying32 rfl zz5) rfl ?_
     exact ⟨zz17, zz12⟩
    ·
     replace c6 := Bool.eq_false_iff.mpr c6
     subst c6
     rw [if_neg (show ¬ (false = true) by decide)] at H
     by_cases c8 : a1 = (a0.size : Int)
     ·
      rw [if_pos c8] at H
      have c8b0 := beq_iff_eq.mpr c8
      have c8b1 := bne_eq_false_iff_eq.mpr c8
      clear c8
      simp only [Option.some.injEq, Prod.mk.injEq] at H
      obtain ⟨rfl, rfl, rfl, rfl, rfl, rfl⟩ := H
      have hcz9_0 : wc.cell? ⟨gb102, 0, none⟩ = some (.int .i64 0) := (blk_cell BK102.out 0).trans rfl
      have hcz9_1 : wc.cell? ⟨gb102, 1, none⟩ = some (.int .i64 0) := (blk_cell BK102.out 1).trans rfl
      have hcz9_2 : wc.cell? ⟨gb102, 2, none⟩ = some (.bool false) := (blk_cell BK102.out 2).trans rfl
      have hcz9_3 : wc.cell? ⟨gb102, 3, none⟩ = some (.int .i64 0) := (blk_cell BK102.out 3).trans rfl
      have hfz9_0 := blk_frozen BK102.out 0
      have hfz9_1 := blk_frozen BK102.out 1
      have hfz9_2 := blk_frozen BK102.out 2
      have hfz9_3 := blk_frozen BK102.out 3
      go_wp2
      refine bodyPost_ret (results_ctt rfl _ _ gb102 32 #[.int .i64 0, .int .i64 0, .bool false, .int .i64 0] (0, 0) _ rfl (by (with_reducible repeat (first | refine blk_drewN ?_ _ | refine blk_drew ?_ | refine blk_alloc ?_ _)); refine blk_put (cs := #[.int .i64 0, .int .i64 0, .bool false, .int .i64 0]) ?_ 3 _ rfl; (with_reducible repeat (first | refine blk_drewN ?_ _ | refine blk_drew ?_ | refine blk_alloc ?_ _)); refine blk_put (cs := #[.int .i64 0, .int .i64 0, .bool false, .int .i64 0]) ?_ 2 _ rfl; (with_reducible repeat (first | refine blk_drewN ?_ _ | refine blk_drew ?_ | refine blk_alloc ?_ _)); refine blk_put (cs := #[.int .i64 0, .int .i64 0, .bool false, .int .i64 0]) ?_ 1 _ rfl; (with_reducible repeat (first | refine blk_drewN ?_ _ | refine blk_drew ?_ | refine blk_alloc ?_ _)); refine blk_put (cs := #[.int .i64 0, .int .i64 0, .bool false, .int .i64 0]) ?_ 0 _ rfl; (with_reducible repeat (first | refine blk_drewN ?_ _ | refine blk_drew ?_ | refine blk_alloc ?_ _)); exact BK102.out) Try.underlying32 rfl zz5) rfl ?_
      exact ⟨zz17, zz12⟩
     ·
      rw [if_neg c8] at H
      have c8b0 := beq_eq_false_iff_ne.mpr c8
      have c8b1 := bne_iff_ne.mpr c8
      by_cases c10 : 0 ≤ a1
      ·
       rw [if_pos c10] at H
       have c10b0 := decide_eq_true c10
       clear c10
       by_cases c11 : a1 < (a0.size : Int)
       ·
        rw [if_pos c11] at H
        have c11b0 := decide_eq_true c11
        clear c11
        by_cases c15 : (wrap64 (Go.bits .and .u8 (bt a0 a1) 31)) < 31
        ·
         rw [if_pos c15] at H
         have c15b0 := decide_eq_true c15
         clear c15
         simp only [Option.some.injEq, Prod.mk.injEq] at H
         obtain ⟨rfl, rfl, rfl, rfl, rfl, rfl⟩ := H
         try go_wp2
         have n0_ := Aside0.mk (blk_drew BK102.out)
         have n1_ := Aside0.mk (below_drew1 HB.out)
         clear BK102
         clear HB
         have BK102 := n0_
         have HB := n1_
         clear n0_ n1_
         have p12 : 0 ≤ (a1 : Int) := of_decide_eq_true zz10
         have q12 : a1 < (a0.size : Int) := of_decide_eq_true zz10
         have hx12 := bt_at a0 a1
         replace p12 := eq_true p12
         replace q12 := eq_true q12
         have p13 : 0 ≤ (a1 : Int) := of_decide_eq_true zz10
         have q13 : a1 < (a0.size : Int) := of_decide_eq_true zz10
         have hx13 := bt_at a0 a1
         replace p13 := eq_true p13
         replace q13 := eq_true q13
         have p14 : 0 ≤ (a1 : Int) := of_decide_eq_true zz10
         have q14 : a1 < (a0.size : Int) := of_decide_eq_true zz10
         have hx14 := bt_at a0 a1
         replace p14 := eq_true p14
         replace q14 := eq_true q14
         refine start_ (n := 18) (S := fun w' => True) (ds := []) #[false, false, false, false, false, false, false, false, false, false, false, false, false, false, false, false, false, false] zz5 rfl rfl trivial (fun hHeld => ?_); refine with_tabW ident_Get.tab5 ident_Get.bits5 (fun HT_ HW_ => ?_)
         generalize wc.drew = w16 at BK102 HB hHeld ⊢
         refine pure_ (i := 0) (N := some 25) (v := ?_) (a' := ?_) #[true, false, false, false, false, false, false, false, false, false, false, false, false, false, false, false, false, false] rfl rfl (any_of HT_.out zz5) (fun _ _ _ h => h) (Or.inl ⟨by rfl, ?_⟩) ?_ ?_
         rotate_left
         ·
          intro w'
          go_simp
          with_reducible rfl
         rotate_left
         ·
          simp only [Act.put, List.setIfInBounds_toArray, List.set_cons_zero, List.set_cons_succ, i64_w, i32_w]
          rfl
         refine pure_ (i := 1) (N := some 26) (v := ?_) (a' := ?_) #[true, true, false, false, false, false, false, false, false, false, false, false, false, false, false, false, false, false] rfl rfl (any_of HT_.out zz5) (fun _ _ _ h => h) (Or.inl ⟨by rfl, ?_⟩) ?_ ?_
         rotate_left
         ·
          intro w'
          go_simp
          with_reducible rfl
         rotate_left
         ·
          simp only [Act.put, List.setIfInBounds_toArray, List.set_cons_zero, List.set_cons_succ, i64_w, i32_w]
          rfl
         refine pure_ (i := 5) (N := some 30) (v := ?_) (a' := ?_) #[true, true, false, false, false, true, false, false, false, false, false, false, false, false, false, false, false, false] rfl rfl (any_of HT_.out zz5) (fun _ _ _ h => h) (Or.inl ⟨by rfl, ?_⟩) ?_ ?_
         rotate_left
         ·
          intro w'
          go_simp
          with_reducible rfl
         rotate_left
         ·
          simp only [Act.put, List.setIfInBounds_toArray, List.set_cons_zero, List.set_cons_succ, i64_w, i32_w]
          rfl
         refine pure_ (i := 6) (N := some 31) (v := ?_) (a' := ?_) #[true, true, false, false, false, true, true, false, false, false, false, false, false, false, false, false, false, false] rfl rfl (any_of HT_.out zz5) (fun _ _ _ h => h) (Or.inl ⟨by rfl, ?_⟩) ?_ ?_
         rotate_left
         ·
          intro w'
          go_simp
          with_reducible rfl
         rotate_left
         ·
          simp only [Act.put, List.setIfInBounds_toArray, List.set_cons_zero, List.set_cons_succ, i64_w, i32_w]
          rfl
         refine pure_ (i := 10) (N := some 35) (v := ?_) (a' := ?_) #[true, true, false, false, false, true, true, false, false, false, true, false, false, false, false, false, false, false] rfl rfl (any_of HT_.out zz5) (fun _ _ _ h => h) (Or.inl ⟨by rfl, ?_⟩) ?_ ?_
         rotate_left
         ·
          intro w'
          go_simp
          with_reducible rfl
         rotate_left
         ·
          simp only [Act.put, List.setIfInBounds_toArray, List.set_cons_zero, List.set_cons_succ, i64_w, i32_w]
          rfl
         refine pure_ (i := 11) (N := some 36) (v := ?_) (a' := ?_) #[true, true, false, false, false, true, true, false, false, false, true, true, false, false, false, false, false, false] rfl rfl (any_of HT_.out zz5) (fun _ _ _ h => h) (Or.inl ⟨by rfl, ?_⟩) ?_ ?_
         rotate_left
         ·
          intro w'
          go_simp
          with_reducible rfl
         rotate_left
         ·
          simp only [Act.put, List.setIfInBounds_toArray, List.set_cons_zero, List.set_cons_succ, i64_w, i32_w]
          rfl
         refine take_ (i := 2) (N := some 27) (v := ?_) (a' := ?_) #[true, true, true, false, false, true, true, false, false, false, true, true, false, false, false, false, false, false] rfl rfl (take_ofW HT_.out HW_.out zz5) (fun _ _ _ h => h) (Or.inl ⟨by rfl, ?_⟩) hHeld ?_ ?_
         rotate_left
         ·
          intro w' _
          go_simp
          with_reducible rfl
         rotate_left
         ·
          simp only [Act.put, List.setIfInBounds_toArray, List.set_cons_zero, List.set_cons_succ, i64_w, i32_w]
          rfl
         refine pure_ (i := 3) (N := some 28) (v := ?_) (a' := ?_) #[true, true, true, true, false, true, true, false, false, false, true, true, false, false, false, false, false, false] rfl rfl (any_of HT_.out zz5) (fun _ _ _ h => h) (Or.inl ⟨by rfl, ?_⟩) ?_ ?_
         rotate_left
         ·
          intro w'
          go_simp
          with_reducible rfl
         rotate_left
         ·
          simp only [Act.put, List.setIfInBounds_toArray, List.set_cons_zero, List.set_cons_succ, i64_w, i32_w]
          rfl
         refine pure_ (i := 4) (N := some 29) (v := ?_) (a' := ?_) #[true, true, true, true, true, true, true, false, false, false, true, true, false, false, false, false, false, false] rfl rfl (any_of HT_.out zz5) (fun _ _ _ h => h) (Or.inl ⟨by rfl, ?_⟩) ?_ ?_
         rotate_left
         ·
          intro w'
          go_simp
          with_reducible rfl
         rotate_left
         ·
          simp only [Act.put, List.setIfInBounds_toArray, List.set_cons_zero, List.set_cons_succ, i64_w, i32_w]
          rfl
         refine take_ (i := 7) (N := some 32) (v := ?_) (a' := ?_) #[true, true, true, true, true, true, true, true, false, false, true, true, false, false, false, false, false, false] rfl rfl (take_ofW HT_.out HW_.out zz5) (fun _ _ _ h => h) (Or.inl ⟨by rfl, ?_⟩) hHeld ?_ ?_
         rotate_left
         ·
          intro w' _
          go_simp
          with_reducible rfl
         rotate_left
         ·
          simp only [Act.put, List.setIfInBounds_toArray, List.set_cons_zero, List.set_cons_succ, i64_w, i32_w]
          rfl
         refine pure_ (i := 8) (N := some 33) (v := ?_) (a' := ?_) #[true, true, true, true, true, true, true, true, true, false, true, true, false, false, false, false, false, false] rfl rfl (any_of HT_.out zz5) (fun _ _ _ h => h) (Or.inl ⟨by rfl, ?_⟩) ?_ ?_
         rotate_left
         ·
          intro w'
          go_simp
          with_reducible rfl
         rotate_left
         ·
          simp only [Act.put, List.setIfInBounds_toArray, List.set_cons_zero, List.set_cons_succ, i64_w, i32_w]
          rfl
         refine pure_ (i := 9) (N := some 34) (v := ?_) (a' := ?_) #[true, true, true, true, true, true, true, true, true, true, true, true, false, false, false, false, false, false] rfl rfl (any_of HT_.out zz5) (fun _ _ _ h => h) (Or.inl ⟨by rfl, ?_⟩) ?_ ?_
         rotate_left
         ·
          intro w'
          go_simp
          with_reducible rfl
         rotate_left
         ·
          simp only [Act.put, List.setIfInBounds_toArray, List.set_cons_zero, List.set_cons_succ, i64_w, i32_w]
          rfl
         refine take_ (i := 12) (N := some 37) (v := ?_) (a' := ?_) #[true, true, true, true, true, true, true, true, true, true, true, true, true, false, false, false, false, false] rfl rfl (take_ofW HT_.out HW_.out zz5) (fun _ _ _ h => h) (Or.inl ⟨by rfl, ?_⟩) hHeld ?_ ?_
         rotate_left
         ·
          intro w' _
          go_simp
          with_reducible rfl
         rotate_left
         ·
          simp only [Act.put, List.setIfInBounds_toArray, List.set_cons_zero, List.set_cons_succ, i64_w, i32_w]
          rfl
         refine pure_ (i := 13) (N := some 38) (v := ?_) (a' := ?_) #[true, true, true, true, true, true, true, true, true, true, true, true, true, true, false, false, false, false] rfl rfl (any_of HT_.out zz5) (fun _ _ _ h => h) (Or.inl ⟨by rfl, ?_⟩) ?_ ?_
         rotate_left
         ·
          intro w'
          go_simp
          with_reducible rfl
         rotate_left
         ·
          simp only [Act.put, List.setIfInBounds_toArray, List.set_cons_zero, List.set_cons_succ, i64_w, i32_w]
          rfl
         refine pure_ (i := 14) (N := some 39) (v := ?_) (a' := ?_) #[true, true, true, true, true, true, true, true, true, true, true, true, true, true, true, false, false, false] rfl rfl (any_of HT_.out zz5) (fun _ _ _ h => h) (Or.inl ⟨by rfl, ?_⟩) ?_ ?_
         rotate_left
         ·
          intro w'
          go_simp
          with_reducible rfl
         rotate_left
         ·
          simp only [Act.put, List.setIfInBounds_toArray, List.set_cons_zero, List.set_cons_succ, i64_w, i32_w]
          rfl
         refine pure_ (i := 15) (N := some 40) (v := ?_) (a' := ?_) #[true, true, true, true, true, true, true, true, true, true, true, true, true, true, true, true, false, false] rfl rfl (any_of HT_.out zz5) (fun _ _ _ h => h) (Or.inl ⟨by rfl, ?_⟩) ?_ ?_
         rotate_left
         ·
          intro w'
          go_simp
          with_reducible rfl
         rotate_left
         ·
          simp only [Act.put, List.setIfInBounds_toArray, List.set_cons_zero, List.set_cons_succ, i64_w, i32_w]
          rfl
         refine one_ (i := 16) (N := some 7) #[true, true, true, true, true, true, true, true, true, true, true, true, true, true, true, true, true, false] rfl rfl (one_of HT_.out zz5) zz8 (fun K hK => ?_)
         refine box_step ?hg (N := 7) ?hd (cs := #[.int .i64 0, .int .i64 0, .bool false, .int .i64 0]) (t := 32) ?hr ?_; (case hd => rfl); (case hg => rfl); (case hr => first | (go_simp; done) | (go_simp; rfl))
         intro gb103 hg w17 hbox hb
         have n0_ := Aside0.mk (blk_below (g := gb102) (o := .cells #[.int .i64 0, .int .i64 0, .bool false, .int .i64 0] 32 (0, 0)) zz14 hb)
         have n1_ := Aside0.mk (below_step zz12 hb)
         have n2_ := Aside0.mk (hbox)
         have n3_ := Aside0.mk ((by rw [hg]; exact (below_size zz12) : w.heap.size ≤ gb103))
         have n4_ := Aside0.mk ((by rw [hg]; exact (below_size zz12) : w.heap.size ≤ gb103))
         have n5_ := Aside0.mk ((by rw [hg]; exact Nat.ne_of_lt (blk_lt (g := gb102) (o := .cells #[.int .i64 0, .int .i64 0, .bool false, .int .i64 0] 32 (0, 0)) zz14) : gb102 ≠ gb103))
         have n6_ := Aside0.mk ((by rw [hg]; exact Nat.ne_of_gt (blk_lt (g := gb102) (o := .cells #[.int .i64 0, .int .i64 0, .bool false, .int .i64 0] 32 (0, 0)) zz14) : gb103 ≠ gb102))
         clear BK102
         clear HB
         have BK102 := n0_
         have HB := n1_
         have BK103 := n2_
         have GW103 := n3_
         have GE103 := n4_
         have NB102_103 := n5_
         have NB103_102 := n6_
         clear n0_ n1_ n2_ n3_ n4_ n5_ n6_
         clear hb hbox hg
         refine hK.out _ _ trivial (fun hHeld => ?_)
         clear hK K
         refine norm_ (a' := ?_) ?_ ?_
         rotate_left
         ·
          show Act.put _ (some 7) _ = _
          simp only [Act.put, List.setIfInBounds_toArray, List.set_cons_zero, List.set_cons_succ, i64_w, i32_w]
          rfl
         refine one_ (i := 17) (N := none) #[true, true, true, true, true, true, true, true, true, true, true, true, true, true, true, true, true, true] rfl rfl (one_of HT_.out zz5) zz8 (fun K hK => ?_)
         have hs18 : w17.cell? ⟨gb103, 0, none⟩ = some (.int .i64 0) := (blk_cell BK103.out 0).trans rfl
         have hfs18 := blk_frozen BK103.out 0
         have hns18_0 := NB102_103.out
         have hms18_0 := NB103_102.out
         have hs19 : w17.cell? ⟨gb103, 1, none⟩ = some (.int .i64 0) := (blk_cell BK103.out 1).trans rfl
         have hfs19 := blk_frozen BK103.out 1
         have hns19_0 := NB102_103.out
         have hms19_0 := NB103_102.out
         have hs20 : w17.cell? ⟨gb103, 2, none⟩ = some (.bool false) := (blk_cell BK103.out 2).trans rfl
         have hfs20 := blk_frozen BK103.out 2
         have hns20_0 := NB102_103.out
         have hms20_0 := NB103_102.out
         have hs21 : w17.cell? ⟨gb103, 3, none⟩ = some (.int .i64 0) := (blk_cell BK103.out 3).trans rfl
         have hfs21 := blk_frozen BK103.out 3
         have hns21_0 := NB102_103.out
         have hms21_0 := NB103_102.out
         refine skip_ (w1 := ?_) (by rfl) rfl ?_ ?_
         rotate_left
         ·
          go_simp
          rfl
         refine hK.out _ _ trivial (fun hHeld => ?_)
         clear hK K
         refine done_ (done_of HT_.out zz5) ?_
         have hnb22 := NB103_102.out
         have hnc22 := NB102_103.out
         have hcz23_0 : w17.cell? ⟨gb103, 0, none⟩ = some (.int .i64 0) := (blk_cell BK103.out 0).trans rfl
         have hcz23_1 : w17.cell? ⟨gb103, 1, none⟩ = some (.int .i64 0) := (blk_cell BK103.out 1).trans rfl
         have hcz23_2 : w17.cell? ⟨gb103, 2, none⟩ = some (.bool false) := (blk_cell BK103.out 2).trans rfl
         have hcz23_3 : w17.cell? ⟨gb103, 3, none⟩ = some (.int .i64 0) := (blk_cell BK103.out 3).trans rfl
         have hfz23_0 := blk_frozen BK103.out 0
         have hfz23_1 := blk_frozen BK103.out 1
         have hfz23_2 := blk_frozen BK103.out 2
         have hfz23_3 := blk_frozen BK103.out 3
         have hcz24_0 : w17.cell? ⟨gb102, 0, none⟩ = some (.int .i64 0) := (blk_cell BK102.out 0).trans rfl
         have hcz24_1 : w17.cell? ⟨gb102, 1, none⟩ = some (.int .i64 0) := (blk_cell BK102.out 1).trans rfl
         have hcz24_2 : w17.cell? ⟨gb102, 2, none⟩ = some (.bool false) := (blk_cell BK102.out 2).trans rfl
         have hcz24_3 : w17.cell? ⟨gb102, 3, none⟩ = some (.int .i64 0) := (blk_cell BK102.out 3).trans rfl
         have hfz24_0 := blk_frozen BK102.out 0
         have hfz24_1 := blk_frozen BK102.out 1
         have hfz24_2 := blk_frozen BK102.out 2
         have hfz24_3 := blk_frozen BK102.out 3
         try go_wp2
         refine bodyPost_ret (results_ctt rfl _ _ gb102 32 #[.int .i64 (wrap64 ((bt a0 a1) / 64)), .int .i64 (wrap64 (Go.bits .and .u8 (bt a0 a1) 31)), .bool ((Go.bits .and .u8 (bt a0 a1) 32) != 0), .int .i64 0] (0, 0) _ rfl (by (with_reducible repeat (first | refine blk_drewN ?_ _ | refine blk_drew ?_ | refine blk_alloc ?_ _)); refine blk_put (cs := #[.int .i64 (wrap64 ((bt a0 a1) / 64)), .int .i64 (wrap64 (Go.bits .and .u8 (bt a0 a1) 31)), .bool ((Go.bits .and .u8 (bt a0 a1) 32) != 0), .int .i64 0]) ?_ 3 _ rfl; (with_reducible repeat (first | refine blk_drewN ?_ _ | refine blk_drew ?_ | refine blk_alloc ?_ _)); refine blk_put (cs := #[.int .i64 (wrap64 ((bt a0 a1) / 64)), .int .i64 (wrap64 (Go.bits .and .u8 (bt a0 a1) 31)), .bool false, .int .i64 0]) ?_ 2 _ rfl; (with_reducible repeat (first | refine blk_drewN ?_ _ | refine blk_drew ?_ | refine blk_alloc ?_ _)); refine blk_put (cs := #[.int .i64 (wrap64 ((bt a0 a1) / 64)), .int .i64 0, .bool false, .int .i64 0]) ?_ 1 _ rfl; (with_reducible repeat (first | refine blk_drewN ?_ _ | refine blk_drew ?_ | refine blk_alloc ?_ _)); refine blk_put (cs := #[.int .i64 0, .int .i64 0, .bool false, .int .i64 0]) ?_ 0 _ rfl; (with_reducible repeat (first | refine blk_drewN ?_ _ | refine blk_drew ?_ | refine blk_alloc ?_ _)); refine blk_far ?_ NB102_103.out _; (with_reducible repeat (first | refine blk_drewN ?_ _ | refine blk_drew ?_ | refine blk_alloc ?_ _)); refine blk_far ?_ NB102_103.out _; (with_reducible repeat (first | refine blk_drewN ?_ _ | refine blk_drew ?_ | refine blk_alloc ?_ _)); refine blk_far ?_ NB102_103.out _; (with_reducible repeat (first | refine blk_drewN ?_ _ | refine blk_drew ?_ | refine blk_alloc ?_ _)); refine blk_far ?_ NB102_103.out _; (with_reducible repeat (first | refine blk_drewN ?_ _ | refine blk_drew ?_ | refine blk_alloc ?_ _)); exact BK102.out) Try.underlying32 rfl zz5) rfl ?_
         exact ⟨zz17, zz9⟩
        ·
         rw [if_neg c15] at H
         have c15b0 := decide_eq_false c15
         clear c15
         have H' := Aside0.mk H
         clear H
         try go_wp2
         have n0_ := Aside0.mk (blk_drew BK102.out)
         have n1_ := Aside0.mk (below_drew1 HB.out)
         clear BK102
         clear HB
         have BK102 := n0_
         have HB := n1_
         clear n0_ n1_
         have p12 : 0 ≤ (a1 : Int) := of_decide_eq_true zz10
         have q12 : a1 < (a0.size : Int) := of_decide_eq_true zz10
         have hx12 := bt_at a0 a1
         replace p12 := eq_true p12
         replace q12 := eq_true q12
         have p13 : 0 ≤ (a1 : Int) := of_decide_eq_true zz10
         have q13 : a1 < (a0.size : Int) := of_decide_eq_true zz10
         have hx13 := bt_at a0 a1
         replace p13 := eq_true p13
         replace q13 := eq_true q13
         have p14 : 0 ≤ (a1 : Int) := of_decide_eq_true zz10
         have q14 : a1 < (a0.size : Int) := of_decide_eq_true zz10
         have hx14 := bt_at a0 a1
         replace p14 := eq_true p14
         replace q14 := eq_true q14
         refine start_ (n := 18) (S := fun w' => True) (ds := []) #[false, false, false, false, false, false, false, false, false, false, false, false, false, false, false, false, false, false] zz5 rfl rfl trivial (fun hHeld => ?_); refine with_tabW ident_Get.tab5 ident_Get.bits5 (fun HT_ HW_ => ?_)
         generalize wc.drew = w25 at BK102 HB hHeld ⊢
         refine pure_ (i := 0) (N := some 25) (v := ?_) (a' := ?_) #[true, false, false, false, false, false, false, false, false, false, false, false, false, false, false, false, false, false] rfl rfl (any_of HT_.out zz5) (fun _ _ _ h => h) (Or.inl ⟨by rfl, ?_⟩) ?_ ?_
         rotate_left
         ·
          intro w'
          go_simp
          with_reducible rfl
         rotate_left
         ·
          simp only [Act.put, List.setIfInBounds_toArray, List.set_cons_zero, List.set_cons_succ, i64_w, i32_w]
          rfl
         refine pure_ (i := 1) (N := some 26) (v := ?_) (a' := ?_) #[true, true, false, false, false, false, false, false, false, false, false, false, false, false, false, false, false, false] rfl rfl (any_of HT_.out zz5) (fun _ _ _ h => h) (Or.inl ⟨by rfl, ?_⟩) ?_ ?_
         rotate_left
         ·
          intro w'
          go_simp
          with_reducible rfl
         rotate_left
         ·
          simp only [Act.put, List.setIfInBounds_toArray, List.set_cons_zero, List.set_cons_succ, i64_w, i32_w]
          rfl
         refine pure_ (i := 5) (N := some 30) (v := ?_) (a' := ?_) #[true, true, false, false, false, true, false, false, false, false, false, false, false, false, false, false, false, false] rfl rfl (any_of HT_.out zz5) (fun _ _ _ h => h) (Or.inl ⟨by rfl, ?_⟩) ?_ ?_
         rotate_left
         ·
          intro w'
          go_simp
          with_reducible rfl
         rotate_left
         ·
          simp only [Act.put, List.setIfInBounds_toArray, List.set_cons_zero, List.set_cons_succ, i64_w, i32_w]
          rfl
         refine pure_ (i := 6) (N := some 31) (v := ?_) (a' := ?_) #[true, true, false, false, false, true, true, false, false, false, false, false, false, false, false, false, false, false] rfl rfl (any_of HT_.out zz5) (fun _ _ _ h => h) (Or.inl ⟨by rfl, ?_⟩) ?_ ?_
         rotate_left
         ·
          intro w'
          go_simp
          with_reducible rfl
         rotate_left
         ·
          simp only [Act.put, List.setIfInBounds_toArray, List.set_cons_zero, List.set_cons_succ, i64_w, i32_w]
          rfl
         refine pure_ (i := 10) (N := some 35) (v := ?_) (a' := ?_) #[true, true, false, false, false, true, true, false, false, false, true, false, false, false, false, false, false, false] rfl rfl (any_of HT_.out zz5) (fun _ _ _ h => h) (Or.inl ⟨by rfl, ?_⟩) ?_ ?_
         rotate_left
         ·
          intro w'
          go_simp
          with_reducible rfl
         rotate_left
         ·
          simp only [Act.put, List.setIfInBounds_toArray, List.set_cons_zero, List.set_cons_succ, i64_w, i32_w]
          rfl
         refine pure_ (i := 11) (N := some 36) (v := ?_) (a' := ?_) #[true, true, false, false, false, true, true, false, false, false, true, true, false, false, false, false, false, false] rfl rfl (any_of HT_.out zz5) (fun _ _ _ h => h) (Or.inl ⟨by rfl, ?_⟩) ?_ ?_
         rotate_left
         ·
          intro w'
          go_simp
          with_reducible rfl
         rotate_left
         ·
          simp only [Act.put, List.setIfInBounds_toArray, List.set_cons_zero, List.set_cons_succ, i64_w, i32_w]
          rfl
         refine take_ (i := 2) (N := some 27) (v := ?_) (a' := ?_) #[true, true, true, false, false, true, true, false, false, false, true, true, false, false, false, false, false, false] rfl rfl (take_ofW HT_.out HW_.out zz5) (fun _ _ _ h => h) (Or.inl ⟨by rfl, ?_⟩) hHeld ?_ ?_
         rotate_left
         ·
          intro w' _
          go_simp
          with_reducible rfl
         rotate_left
         ·
          simp only [Act.put, List.setIfInBounds_toArray, List.set_cons_zero, List.set_cons_succ, i64_w, i32_w]
          rfl
         refine pure_ (i := 3) (N := some 28) (v := ?_) (a' := ?_) #[true, true, true, true, false, true, true, false, false, false, true, true, false, false, false, false, false, false] rfl rfl (any_of HT_.out zz5) (fun _ _ _ h => h) (Or.inl ⟨by rfl, ?_⟩) ?_ ?_
         rotate_left
         ·
          intro w'
          go_simp
          with_reducible rfl
         rotate_left
         ·
          simp only [Act.put, List.setIfInBounds_toArray, List.set_cons_zero, List.set_cons_succ, i64_w, i32_w]
          rfl
         refine pure_ (i := 4) (N := some 29) (v := ?_) (a' := ?_) #[true, true, true, true, true, true, true, false, false, false, true, true, false, false, false, false, false, false] rfl rfl (any_of HT_.out zz5) (fun _ _ _ h => h) (Or.inl ⟨by rfl, ?_⟩) ?_ ?_
         rotate_left
         ·
          intro w'
          go_simp
          with_reducible rfl
         rotate_left
         ·
          simp only [Act.put, List.setIfInBounds_toArray, List.set_cons_zero, List.set_cons_succ, i64_w, i32_w]
          rfl
         refine take_ (i := 7) (N := some 32) (v := ?_) (a' := ?_) #[true, true, true, true, true, true, true, true, false, false, true, true, false, false, false, false, false, false] rfl rfl (take_ofW HT_.out HW_.out zz5) (fun _ _ _ h => h) (Or.inl ⟨by rfl, ?_⟩) hHeld ?_ ?_
         rotate_left
         ·
          intro w' _
          go_simp
          with_reducible rfl
         rotate_left
         ·
          simp only [Act.put, List.setIfInBounds_toArray, List.set_cons_zero, List.set_cons_succ, i64_w, i32_w]
          rfl
         refine pure_ (i := 8) (N := some 33) (v := ?_) (a' := ?_) #[true, true, true, true, true, true, true, true, true, false, true, true, false, false, false, false, false, false] rfl rfl (any_of HT_.out zz5) (fun _ _ _ h => h) (Or.inl ⟨by rfl, ?_⟩) ?_ ?_
         rotate_left
         ·
          intro w'
          go_simp
          with_reducible rfl
         rotate_left
         ·
          simp only [Act.put, List.setIfInBounds_toArray, List.set_cons_zero, List.set_cons_succ, i64_w, i32_w]
          rfl
         refine pure_ (i := 9) (N := some 34) (v := ?_) (a' := ?_) #[true, true, true, true, true, true, true, true, true, true, true, true, false, false, false, false, false, false] rfl rfl (any_of HT_.out zz5) (fun _ _ _ h => h) (Or.inl ⟨by rfl, ?_⟩) ?_ ?_
         rotate_left
         ·
          intro w'
          go_simp
          with_reducible rfl
         rotate_left
         ·
          simp only [Act.put, List.setIfInBounds_toArray, List.set_cons_zero, List.set_cons_succ, i64_w, i32_w]
          rfl
         refine take_ (i := 12) (N := some 37) (v := ?_) (a' := ?_) #[true, true, true, true, true, true, true, true, true, true, true, true, true, false, false, false, false, false] rfl rfl (take_ofW HT_.out HW_.out zz5) (fun _ _ _ h => h) (Or.inl ⟨by rfl, ?_⟩) hHeld ?_ ?_
         rotate_left
         ·
          intro w' _
          go_simp
          with_reducible rfl
         rotate_left
         ·
          simp only [Act.put, List.setIfInBounds_toArray, List.set_cons_zero, List.set_cons_succ, i64_w, i32_w]
          rfl
         refine pure_ (i := 13) (N := some 38) (v := ?_) (a' := ?_) #[true, true, true, true, true, true, true, true, true, true, true, true, true, true, false, false, false, false] rfl rfl (any_of HT_.out zz5) (fun _ _ _ h => h) (Or.inl ⟨by rfl, ?_⟩) ?_ ?_
         rotate_left
         ·
          intro w'
          go_simp
          with_reducible rfl
         rotate_left
         ·
          simp only [Act.put, List.setIfInBounds_toArray, List.set_cons_zero, List.set_cons_succ, i64_w, i32_w]
          rfl
         refine pure_ (i := 14) (N := some 39) (v := ?_) (a' := ?_) #[true, true, true, true, true, true, true, true, true, true, true, true, true, true, true, false, false, false] rfl rfl (any_of HT_.out zz5) (fun _ _ _ h => h) (Or.inl ⟨by rfl, ?_⟩) ?_ ?_
         rotate_left
         ·
          intro w'
          go_simp
          with_reducible rfl
         rotate_left
         ·
          simp only [Act.put, List.setIfInBounds_toArray, List.set_cons_zero, List.set_cons_succ, i64_w, i32_w]
          rfl
         refine pure_ (i := 15) (N := some 40) (v := ?_) (a' := ?_) #[true, true, true, true, true, true, true, true, true, true, true, true, true, true, true, true, false, false] rfl rfl (any_of HT_.out zz5) (fun _ _ _ h => h) (Or.inl ⟨by rfl, ?_⟩) ?_ ?_
         rotate_left
         ·
          intro w'
          go_simp
          with_reducible rfl
         rotate_left
         ·
          simp only [Act.put, List.setIfInBounds_toArray, List.set_cons_zero, List.set_cons_succ, i64_w, i32_w]
          rfl
         refine one_ (i := 16) (N := some 7) #[true, true, true, true, true, true, true, true, true, true, true, true, true, true, true, true, true, false] rfl rfl (one_of HT_.out zz5) zz8 (fun K hK => ?_)
         refine box_step ?hg (N := 7) ?hd (cs := #[.int .i64 0, .int .i64 0, .bool false, .int .i64 0]) (t := 32) ?hr ?_; (case hd => rfl); (case hg => rfl); (case hr => first | (go_simp; done) | (go_simp; rfl))
         intro gb103 hg w26 hbox hb
         have n0_ := Aside0.mk (blk_below (g := gb102) (o := .cells #[.int .i64 0, .int .i64 0, .bool false, .int .i64 0] 32 (0, 0)) zz14 hb)
         have n1_ := Aside0.mk (below_step zz12 hb)
         have n2_ := Aside0.mk (hbox)
         have n3_ := Aside0.mk ((by rw [hg]; exact (below_size zz12) : w.heap.size ≤ gb103))
         have n4_ := Aside0.mk ((by rw [hg]; exact (below_size zz12) : w.heap.size ≤ gb103))
         have n5_ := Aside0.mk ((by rw [hg]; exact Nat.ne_of_lt (blk_lt (g := gb102) (o := .cells #[.int .i64 0, .int .i64 0, .bool false, .int .i64 0] 32 (0, 0)) zz14) : gb102 ≠ gb103))
         have n6_ := Aside0.mk ((by rw [hg]; exact Nat.ne_of_gt (blk_lt (g := gb102) (o := .cells #[.int .i64 0, .int .i64 0, .bool false, .int .i64 0] 32 (0, 0)) zz14) : gb103 ≠ gb102))
         clear BK102
         clear HB
         have BK102 := n0_
         have HB := n1_
         have BK103 := n2_
         have GW103 := n3_
         have GE103 := n4_
         have NB102_103 := n5_
         have NB103_102 := n6_
         clear n0_ n1_ n2_ n3_ n4_ n5_ n6_
         clear hb hbox hg
         refine hK.out _ _ trivial (fun hHeld => ?_)
         clear hK K
         refine norm_ (a' := ?_) ?_ ?_
         rotate_left
         ·
          show Act.put _ (some 7) _ = _
          simp only [Act.put, List.setIfInBounds_toArray, List.set_cons_zero, List.set_cons_succ, i64_w, i32_w]
          rfl
         refine one_ (i := 17) (N := none) #[true, true, true, true, true, true, true, true, true, true, true, true, true, true, true, true, true, true] rfl rfl (one_of HT_.out zz5) zz8 (fun K hK => ?_)
         have hs27 : w26.cell? ⟨gb103, 0, none⟩ = some (.int .i64 0) := (blk_cell BK103.out 0).trans rfl
         have hfs27 := blk_frozen BK103.out 0
         have hns27_0 := NB102_103.out
         have hms27_0 := NB103_102.out
         have hs28 : w26.cell? ⟨gb103, 1, none⟩ = some (.int .i64 0) := (blk_cell BK103.out 1).trans rfl
         have hfs28 := blk_frozen BK103.out 1
         have hns28_0 := NB102_103.out
         have hms28_0 := NB103_102.out
         have hs29 : w26.cell? ⟨gb103, 2, none⟩ = some (.bool false) := (blk_cell BK103.out 2).trans rfl
         have hfs29 := blk_frozen BK103.out 2
         have hns29_0 := NB102_103.out
         have hms29_0 := NB103_102.out
         have hs30 : w26.cell? ⟨gb103, 3, none⟩ = some (.int .i64 0) := (blk_cell BK103.out 3).trans rfl
         have hfs30 := blk_frozen BK103.out 3
         have hns30_0 := NB102_103.out
         have hms30_0 := NB103_102.out
         refine skip_ (w1 := ?_) (by rfl) rfl ?_ ?_
         rotate_left
         ·
          go_simp
          rfl
         refine hK.out _ _ trivial (fun hHeld => ?_)
         clear hK K
         refine done_ (done_of HT_.out zz5) ?_
         have hnb31 := NB103_102.out
         have hnc31 := NB102_103.out
         have hcz32_0 : w26.cell? ⟨gb103, 0, none⟩ = some (.int .i64 0) := (blk_cell BK103.out 0).trans rfl
         have hcz32_1 : w26.cell? ⟨gb103, 1, none⟩ = some (.int .i64 0) := (blk_cell BK103.out 1).trans rfl
         have hcz32_2 : w26.cell? ⟨gb103, 2, none⟩ = some (.bool false) := (blk_cell BK103.out 2).trans rfl
         have hcz32_3 : w26.cell? ⟨gb103, 3, none⟩ = some (.int .i64 0) := (blk_cell BK103.out 3).trans rfl
         have hfz32_0 := blk_frozen BK103.out 0
         have hfz32_1 := blk_frozen BK103.out 1
         have hfz32_2 := blk_frozen BK103.out 2
         have hfz32_3 := blk_frozen BK103.out 3
         try go_wp2
         go_loopg [8, 9] kj2 (fun kq v8 v9 w' => ∃ (x8_2 : Int) (x9_2 : Int) (x103000_2 : Int) (x103001_2 : Int) (x103002_2 : Bool) (x103003_2 : Int) (x104001_2 : Int), v8 = .int .i64 x8_2 ∧ v9 = .int .i64 x9_2 ∧ Aside0 (ident_Get.l0 kq a0 a1 x8_2 x9_2 (wrap64 ((bt a0 a1) / 64)) x104001_2 ((Go.bits .and .u8 (bt a0 a1) 32) != 0) 0 = some (r1, r2, r3, r4, r5, r6)) ∧ Aside0 (kq ≤ kj2) ∧ Aside0 (w'.heap[gb102]? = some (.cells #[.int .i64 x103000_2, .int .i64 x103001_2, .bool x103002_2, .int .i64 x103003_2] 32 (0, 0))) ∧ Aside0 (w'.heap[gb103]? = some (.cells #[.int .i64 (wrap64 ((bt a0 a1) / 64)), .int .i64 x104001_2, .bool ((Go.bits .and .u8 (bt a0 a1) 32) != 0), .int .i64 0] 32 (0, 0))) ∧ Aside0 (Below w.heap.size w w'))
         case atStart => exact ⟨(0), (wrap64 (a1 + 1)), (0), (0), (false), (0), (wrap64 (Go.bits .and .u8 (bt a0 a1) 31)), zz0, zz0, H', ⟨Nat.le_refl _⟩, ⟨by (with_reducible repeat (first | refine blk_drewN ?_ _ | refine blk_drew ?_ | refine blk_alloc ?_ _)); refine blk_far ?_ NB102_103.out _; (with_reducible repeat (first | refine blk_drewN ?_ _ | refine blk_drew ?_ | refine blk_alloc ?_ _)); refine blk_far ?_ NB102_103.out _; (with_reducible repeat (first | refine blk_drewN ?_ _ | refine blk_drew ?_ | refine blk_alloc ?_ _)); refine blk_far ?_ NB102_103.out _; (with_reducible repeat (first | refine blk_drewN ?_ _ | refine blk_drew ?_ | refine blk_alloc ?_ _)); refine blk_far ?_ NB102_103.out _; (with_reducible repeat (first | refine blk_drewN ?_ _ | refine blk_drew ?_ | refine blk_alloc ?_ _)); exact BK102.out⟩, ⟨by (with_reducible repeat (first | refine blk_drewN ?_ _ | refine blk_drew ?_ | refine blk_alloc ?_ _)); refine blk_put (cs := #[.int .i64 (wrap64 ((bt a0 a1) / 64)), .int .i64 (wrap64 (Go.bits .and .u8 (bt a0 a1) 31)), .bool ((Go.bits .and .u8 (bt a0 a1) 32) != 0), .int .i64 0]) ?_ 3 _ rfl; (with_reducible repeat (first | refine blk_drewN ?_ _ | refine blk_drew ?_ | refine blk_alloc ?_ _)); refine blk_put (cs := #[.int .i64 (wrap64 ((bt a0 a1) / 64)), .int .i64 (wrap64 (Go.bits .and .u8 (bt a0 a1) 31)), .bool false, .int .i64 0]) ?_ 2 _ rfl; (with_reducible repeat (first | refine blk_drewN ?_ _ | refine blk_drew ?_ | refine blk_alloc ?_ _)); refine blk_put (cs := #[.int .i64 (wrap64 ((bt a0 a1) / 64)), .int .i64 0, .bool false, .int .i64 0]) ?_ 1 _ rfl; (with_reducible repeat (first | refine blk_drewN ?_ _ | refine blk_drew ?_ | refine blk_alloc ?_ _)); refine blk_put (cs := #[.int .i64 0, .int .i64 0, .bool false, .int .i64 0]) ?_ 0 _ rfl; (with_reducible repeat (first | refine blk_drewN ?_ _ | refine blk_drew ?_ | refine blk_alloc ?_ _)); exact BK103.out⟩, ⟨zz9⟩⟩
         case round =>
          clear H'
          try clear c6
          try clear c8
          try clear c8b0
          try clear c8b1
          try clear c10b0
          try clear c11b0
          try clear p12
          try clear q12
          try clear hx12
          try clear p13
          try clear q13
          try clear hx13
          try clear p14
          try clear q14
          try clear hx14
          try clear c15b0
          try clear hcz32_0
          try clear hcz32_1
          try clear hcz32_2
          try clear hcz32_3
          try clear hfz32_0
          try clear hfz32_1
          try clear hfz32_2
          try clear hfz32_3
          obtain ⟨x8_2, x9_2, x103000_2, x103001_2, x103002_2, x103003_2, x104001_2, rfl, rfl, HA, HK2, BK102, BK103, HB⟩ := hrel
          cases gk with
          | zero => exact absurd HA.out (by simp [ident_Get.l0])
          | succ k2 =>
            have H := HA.out
            clear HA
            simp only [ident_Get.l0] at H
            by_cases c33 : x9_2 < (a0.size : Int)
            ·
             rw [if_pos c33] at H
             have c33b0 := decide_eq_true c33
             clear c33
             have HC34 := Aside0.mk H
             clear H
             go_upto_region 12 with (fail)
             go_cut [64] (fun v64 wc => ∃ (kq : Nat) (x64_33 : Bool), v64 = .bool x64_33 ∧ Aside0 (ident_Get.j2 kq a0 a1 x8_2 x9_2 x64_33 (wrap64 ((bt a0 a1) / 64)) x104001_2 ((Go.bits .and .u8 (bt a0 a1) 32) != 0) 0 = some (r1, r2, r3, r4, r5, r6)) ∧ Aside0 (kq ≤ k2) ∧ Aside0 (wc.heap[gb102]? = some (.cells #[.int .i64 x103000_2, .int .i64 x103001_2, .bool x103002_2, .int .i64 x103003_2] 32 (0, 0))) ∧ Aside0 (wc.heap[gb103]? = some (.cells #[.int .i64 (wrap64 ((bt a0 a1) / 64)), .int .i64 x104001_2, .bool ((Go.bits .and .u8 (bt a0 a1) 32) != 0), .int .i64 0] 32 (0, 0))) ∧ Aside0 (Below w.heap.size w wc))
             case first =>
              have H := HC34.out
              clear HC34
              by_cases c35 : x9_2 = (wrap64 (a1 + 1))
              ·
               rw [if_pos c35] at H
               have c35b0 := beq_iff_eq.mpr c35
               have c35b1 := bne_eq_false_iff_eq.mpr c35
               clear c35
               (first | rw [c35b0] | (simp only [i64_w, i32_w]; rw [c35b0]) | skip)
               by_cases c36 : 0 ≤ x9_2
               ·
                rw [if_pos c36] at H
                have c36b0 := decide_eq_true c36
                clear c36
                have H' := Aside0.mk H
                clear H
                have p37 : 0 ≤ (x9_2 : Int) := of_decide_eq_true zz10
                have q37 : x9_2 < (a0.size : Int) := of_decide_eq_true zz10
                have hx37 := bt_at a0 x9_2
                replace p37 := eq_true p37
                replace q37 := eq_true q37
                go_wp2
                go_meet
                case rel => exact ⟨_, (((bt a0 x9_2) == 128)), zz0, H', ⟨by have := HJ2.out; have := HK2.out; first | omega | exact Nat.le_refl _⟩, ⟨zz14⟩, ⟨zz27⟩, ⟨zz9⟩⟩
               ·
                rw [if_neg c36] at H
                exact absurd H zz19
              ·
               rw [if_neg c35] at H
               have c35b0 := beq_eq_false_iff_ne.mpr c35
               have c35b1 := bne_iff_ne.mpr c35
               (first | rw [c35b0] | (simp only [i64_w, i32_w]; rw [c35b0]) | skip)
               have H' := Aside0.mk H
               clear H
               go_wp2
               go_meet
               case rel => exact ⟨_, (false), zz0, H', ⟨by have := HJ2.out; have := HK2.out; first | omega | exact Nat.le_refl _⟩, ⟨zz14⟩, ⟨zz27⟩, ⟨zz9⟩⟩
             case rest =>
              clear HC34
              try clear c33b0
              obtain ⟨kq, x64_33, rfl, HA, HJ33, BK102, BK103, HB⟩ := hcut
              cases kq with
              | zero => exact absurd HA.out (by simp [ident_Get.j2])
              | succ kj33 =>
                have H := HA.out
                clear HA
                simp only [ident_Get.j2] at H
                by_cases c38 : x64_33 = true
                ·
                 subst c38
                 rw [if_pos rfl] at H
                 simp only [Option.some.injEq, Prod.mk.injEq] at H
                 obtain ⟨rfl, rfl, rfl, rfl, rfl, rfl⟩ := H
                 have hnb39 := NB102_103.out
                 have hnc39 := NB103_102.out
                 have hcz40_0 : wc.cell? ⟨gb102, 0, none⟩ = some (.int .i64 x103000_2) := (blk_cell BK102.out 0).trans rfl
                 have hcz40_1 : wc.cell? ⟨gb102, 1, none⟩ = some (.int .i64 x103001_2) := (blk_cell BK102.out 1).trans rfl
                 have hcz40_2 : wc.cell? ⟨gb102, 2, none⟩ = some (.bool x103002_2) := (blk_cell BK102.out 2).trans rfl
                 have hcz40_3 : wc.cell? ⟨gb102, 3, none⟩ = some (.int .i64 x103003_2) := (blk_cell BK102.out 3).trans rfl
                 have hfz40_0 := blk_frozen BK102.out 0
                 have hfz40_1 := blk_frozen BK102.out 1
                 have hfz40_2 := blk_frozen BK102.out 2
                 have hfz40_3 := blk_frozen BK102.out 3
                 go_wp2
                 refine bodyPost_ret (results_ctt rfl _ _ gb102 32 #[.int .i64 0, .int .i64 0, .bool false, .int .i64 0] (0, 0) _ rfl zz2 Try.underlying32 rfl zz5) rfl ?_
                 exact ⟨zz17, zz9⟩
                ·
                 replace c38 := Bool.eq_false_iff.mpr c38
                 subst c38
                 rw [if_neg (show ¬ (false = true) by decide)] at H
                 by_cases c41 : 0 ≤ x9_2
                 ·
                  rw [if_pos c41] at H
                  have c41b0 := decide_eq_true c41
                  clear c41
                  by_cases c42 : x9_2 < (a0.size : Int)
                  ·
                   rw [if_pos c42] at H
                   have c42b0 := decide_eq_true c42
                   clear c42
                   by_cases c44 : (Go.bits .or .i64 (wrap64 (x8_2 * 128)) (wrap64 (Go.bits .and .u8 (bt a0 x9_2) 127))) > 268435455
                   ·
                    rw [if_pos c44] at H
                    have c44b0 : decide (268435455 < (Go.bits .or .i64 (wrap64 (x8_2 * 128)) (wrap64 (Go.bits .and .u8 (bt a0 x9_2) 127)))) = true := decide_eq_true c44
                    clear c44
                    simp only [Option.some.injEq, Prod.mk.injEq] at H
                    obtain ⟨rfl, rfl, rfl, rfl, rfl, rfl⟩ := H
                    have p43 : 0 ≤ (x9_2 : Int) := of_decide_eq_true zz10
                    have q43 : x9_2 < (a0.size : Int) := of_decide_eq_true zz10
                    have hx43 := bt_at a0 x9_2
                    replace p43 := eq_true p43
                    replace q43 := eq_true q43
                    have hnb45 := NB102_103.out
                    have hnc45 := NB103_102.out
                    have hcz46_0 : wc.cell? ⟨gb102, 0, none⟩ = some (.int .i64 x103000_2) := (blk_cell BK102.out 0).trans rfl
                    have hcz46_1 : wc.cell? ⟨gb102, 1, none⟩ = some (.int .i64 x103001_2) := (blk_cell BK102.out 1).trans rfl
                    have hcz46_2 : wc.cell? ⟨gb102, 2, none⟩ = some (.bool x103002_2) := (blk_cell BK102.out 2).trans rfl
                    have hcz46_3 : wc.cell? ⟨gb102, 3, none⟩ = some (.int .i64 x103003_2) := (blk_cell BK102.out 3).trans rfl
                    have hfz46_0 := blk_frozen BK102.out 0
                    have hfz46_1 := blk_frozen BK102.out 1
                    have hfz46_2 := blk_frozen BK102.out 2
                    have hfz46_3 := blk_frozen BK102.out 3
                    go_wp2
                    refine bodyPost_ret (results_ctt rfl _ _ gb102 32 #[.int .i64 0, .int .i64 0, .bool false, .int .i64 0] (0, 0) _ rfl zz2 Try.underlying32 rfl zz5) rfl ?_
                    exact ⟨zz17, zz9⟩
                   ·
                    rw [if_neg c44] at H
                    have c44b0 : decide (268435455 < (Go.bits .or .i64 (wrap64 (x8_2 * 128)) (wrap64 (Go.bits .and .u8 (bt a0 x9_2) 127)))) = false := decide_eq_false c44
                    clear c44
                    by_cases c48 : (bt a0 x9_2) ≥ 128
                    ·
                     rw [if_pos c48] at H
                     have c48b0 : decide (128 ≤ (bt a0 x9_2)) = true := decide_eq_true c48
                     clear c48
                     have H' := Aside0.mk H
                     clear H
                     have p43 : 0 ≤ (x9_2 : Int) := of_decide_eq_true zz10
                     have q43 : x9_2 < (a0.size : Int) := of_decide_eq_true zz10
                     have hx43 := bt_at a0 x9_2
                     replace p43 := eq_true p43
                     replace q43 := eq_true q43
                     have p47 : 0 ≤ (x9_2 : Int) := of_decide_eq_true zz10
                     have q47 : x9_2 < (a0.size : Int) := of_decide_eq_true zz10
                     have hx47 := bt_at a0 x9_2
                     replace p47 := eq_true p47
                     replace q47 := eq_true q47
                     go_wp2
                     go_roundg kj33
                     case measure => have := HJ2.out; have := HK2.out; have := HJ33.out; omega
                     case rel => exact ⟨(Go.bits .or .i64 (wrap64 (x8_2 * 128)) (wrap64 (Go.bits .and .u8 (bt a0 x9_2) 127))), (wrap64 (x9_2 + 1)), (x103000_2), (x103001_2), (x103002_2), (x103003_2), (x104001_2), zz0, zz0, H', ⟨by have := HJ2.out; have := HK2.out; have := HJ33.out; omega⟩, ⟨zz14⟩, ⟨zz27⟩, ⟨zz9⟩⟩
                    ·
                     rw [if_neg c48] at H
                     have c48b0 : decide (128 ≤ (bt a0 x9_2)) = false := decide_eq_false c48
                     clear c48
                     by_cases c49 : (Go.bits .or .i64 (wrap64 (x8_2 * 128)) (wrap64 (Go.bits .and .u8 (bt a0 x9_2) 127))) < 31
                     ·
                      rw [if_pos c49] at H
                      have c49b0 := decide_eq_true c49
                      clear c49
                      simp only [Option.some.injEq, Prod.mk.injEq] at H
                      obtain ⟨rfl, rfl, rfl, rfl, rfl, rfl⟩ := H
                      have p43 : 0 ≤ (x9_2 : Int) := of_decide_eq_true zz10
                      have q43 : x9_2 < (a0.size : Int) := of_decide_eq_true zz10
                      have hx43 := bt_at a0 x9_2
                      replace p43 := eq_true p43
                      replace q43 := eq_true q43
                      have p47 : 0 ≤ (x9_2 : Int) := of_decide_eq_true zz10
                      have q47 : x9_2 < (a0.size : Int) := of_decide_eq_true zz10
                      have hx47 := bt_at a0 x9_2
                      replace p47 := eq_true p47
                      replace q47 := eq_true q47
                      have hnb50 := NB102_103.out
                      have hnc50 := NB103_102.out
                      have hcz51_0 : wc.cell? ⟨gb102, 0, none⟩ = some (.int .i64 x103000_2) := (blk_cell BK102.out 0).trans rfl
                      have hcz51_1 : wc.cell? ⟨gb102, 1, none⟩ = some (.int .i64 x103001_2) := (blk_cell BK102.out 1).trans rfl
                      have hcz51_2 : wc.cell? ⟨gb102, 2, none⟩ = some (.bool x103002_2) := (blk_cell BK102.out 2).trans rfl
                      have hcz51_3 : wc.cell? ⟨gb102, 3, none⟩ = some (.int .i64 x103003_2) := (blk_cell BK102.out 3).trans rfl
                      have hfz51_0 := blk_frozen BK102.out 0
                      have hfz51_1 := blk_frozen BK102.out 1
                      have hfz51_2 := blk_frozen BK102.out 2
                      have hfz51_3 := blk_frozen BK102.out 3
                      go_wp2
                      refine bodyPost_ret (results_ctt rfl _ _ gb102 32 #[.int .i64 0, .int .i64 0, .bool false, .int .i64 0] (0, 0) _ rfl zz2 Try.underlying32 rfl zz5) rfl ?_
                      exact ⟨zz17, zz9⟩
                     ·
                      rw [if_neg c49] at H
                      have c49b0 := decide_eq_false c49
                      clear c49
                      simp only [Option.some.injEq, Prod.mk.injEq] at H
                      obtain ⟨rfl, rfl, rfl, rfl, rfl, rfl⟩ := H
                      have p43 : 0 ≤ (x9_2 : Int) := of_decide_eq_true zz10
                      have q43 : x9_2 < (a0.size : Int) := of_decide_eq_true zz10
                      have hx43 := bt_at a0 x9_2
                      replace p43 := eq_true p43
                      replace q43 := eq_true q43
                      have p47 : 0 ≤ (x9_2 : Int) := of_decide_eq_true zz10
                      have q47 : x9_2 < (a0.size : Int) := of_decide_eq_true zz10
                      have hx47 := bt_at a0 x9_2
                      replace p47 := eq_true p47
                      replace q47 := eq_true q47
                      have hnb52 := NB103_102.out
                      have hnc52 := NB102_103.out
                      have hcz53_0 : wc.cell? ⟨gb103, 0, none⟩ = some (.int .i64 (wrap64 ((bt a0 a1) / 64))) := (blk_cell BK103.out 0).trans rfl
                      have hcz53_1 : wc.cell? ⟨gb103, 1, none⟩ = some (.int .i64 x104001_2) := (blk_cell BK103.out 1).trans rfl
                      have hcz53_2 : wc.cell? ⟨gb103, 2, none⟩ = some (.bool ((Go.bits .and .u8 (bt a0 a1) 32) != 0)) := (blk_cell BK103.out 2).trans rfl
                      have hcz53_3 : wc.cell? ⟨gb103, 3, none⟩ = some (.int .i64 0) := (blk_cell BK103.out 3).trans rfl
                      have hfz53_0 := blk_frozen BK103.out 0
                      have hfz53_1 := blk_frozen BK103.out 1
                      have hfz53_2 := blk_frozen BK103.out 2
                      have hfz53_3 := blk_frozen BK103.out 3
                      have hcz54_0 : wc.cell? ⟨gb102, 0, none⟩ = some (.int .i64 x103000_2) := (blk_cell BK102.out 0).trans rfl
                      have hcz54_1 : wc.cell? ⟨gb102, 1, none⟩ = some (.int .i64 x103001_2) := (blk_cell BK102.out 1).trans rfl
                      have hcz54_2 : wc.cell? ⟨gb102, 2, none⟩ = some (.bool x103002_2) := (blk_cell BK102.out 2).trans rfl
                      have hcz54_3 : wc.cell? ⟨gb102, 3, none⟩ = some (.int .i64 x103003_2) := (blk_cell BK102.out 3).trans rfl
                      have hfz54_0 := blk_frozen BK102.out 0
                      have hfz54_1 := blk_frozen BK102.out 1
                      have hfz54_2 := blk_frozen BK102.out 2
                      have hfz54_3 := blk_frozen BK102.out 3
                      go_wp2
                      refine bodyPost_ret (results_ctt rfl _ _ gb102 32 #[.int .i64 (wrap64 ((bt a0 a1) / 64)), .int .i64 (Go.bits .or .i64 (wrap64 (x8_2 * 128)) (wrap64 (Go.bits .and .u8 (bt a0 x9_2) 127))), .bool ((Go.bits .and .u8 (bt a0 a1) 32) != 0), .int .i64 0] (0, 0) _ rfl (by (with_reducible repeat (first | refine blk_drewN ?_ _ | refine blk_drew ?_ | refine blk_alloc ?_ _)); refine blk_put (cs := #[.int .i64 (wrap64 ((bt a0 a1) / 64)), .int .i64 (Go.bits .or .i64 (wrap64 (x8_2 * 128)) (wrap64 (Go.bits .and .u8 (bt a0 x9_2) 127))), .bool ((Go.bits .and .u8 (bt a0 a1) 32) != 0), .int .i64 x103003_2]) ?_ 3 _ rfl; (with_reducible repeat (first | refine blk_drewN ?_ _ | refine blk_drew ?_ | refine blk_alloc ?_ _)); refine blk_put (cs := #[.int .i64 (wrap64 ((bt a0 a1) / 64)), .int .i64 (Go.bits .or .i64 (wrap64 (x8_2 * 128)) (wrap64 (Go.bits .and .u8 (bt a0 x9_2) 127))), .bool x103002_2, .int .i64 x103003_2]) ?_ 2 _ rfl; (with_reducible repeat (first | refine blk_drewN ?_ _ | refine blk_drew ?_ | refine blk_alloc ?_ _)); refine blk_put (cs := #[.int .i64 (wrap64 ((bt a0 a1) / 64)), .int .i64 x103001_2, .bool x103002_2, .int .i64 x103003_2]) ?_ 1 _ rfl; (with_reducible repeat (first | refine blk_drewN ?_ _ | refine blk_drew ?_ | refine blk_alloc ?_ _)); refine blk_put (cs := #[.int .i64 x103000_2, .int .i64 x103001_2, .bool x103002_2, .int .i64 x103003_2]) ?_ 0 _ rfl; (with_reducible repeat (first | refine blk_drewN ?_ _ | refine blk_drew ?_ | refine blk_alloc ?_ _)); refine blk_far ?_ NB102_103.out _; (with_reducible repeat (first | refine blk_drewN ?_ _ | refine blk_drew ?_ | refine blk_alloc ?_ _)); exact BK102.out) Try.underlying32 rfl zz5) rfl ?_
                      exact ⟨zz17, zz9⟩
                  ·
                   rw [if_neg c42] at H
                   exact absurd H zz19
                 ·
                  rw [if_neg c41] at H
                  exact absurd H zz19
            ·
             rw [if_neg c33] at H
             have c33b0 := decide_eq_false c33
             clear c33
             simp only [Option.some.injEq, Prod.mk.injEq] at H
             obtain ⟨rfl, rfl, rfl, rfl, rfl, rfl⟩ := H
             have hnb55 := NB102_103.out
             have hnc55 := NB103_102.out
             have hcz56_0 : wr.cell? ⟨gb102, 0, none⟩ = some (.int .i64 x103000_2) := (blk_cell BK102.out 0).trans rfl
             have hcz56_1 : wr.cell? ⟨gb102, 1, none⟩ = some (.int .i64 x103001_2) := (blk_cell BK102.out 1).trans rfl
             have hcz56_2 : wr.cell? ⟨gb102, 2, none⟩ = some (.bool x103002_2) := (blk_cell BK102.out 2).trans rfl
             have hcz56_3 : wr.cell? ⟨gb102, 3, none⟩ = some (.int .i64 x103003_2) := (blk_cell BK102.out 3).trans rfl
             have hfz56_0 := blk_frozen BK102.out 0
             have hfz56_1 := blk_frozen BK102.out 1
             have hfz56_2 := blk_frozen BK102.out 2
             have hfz56_3 := blk_frozen BK102.out 3
             go_wp2
             refine bodyPost_ret (results_ctt rfl _ _ gb102 32 #[.int .i64 0, .int .i64 0, .bool false, .int .i64 0] (0, 0) _ rfl zz2 Try.underlying32 rfl zz5) rfl ?_
             exact ⟨zz17, zz9⟩
       ·
        rw [if_neg c11] at H
        exact absurd H zz19
      ·
       rw [if_neg c10] at H
       exact absurd H zz19
end Go.Proofs.Ytcfommconnlhgaa.PC
namespace Go.Proofs.Ytcfommconnlhgaa.PC
open Own Sl
open RowKit YtcfommconnlhgaaW.PrintWords YtcfommconnlhgaaW.PrintLast YtcfommconnlhgaaW.PrintMore
attribute [local go_sem] max2_int min2_int max_two min_two max_three min_three max_four min_four
set_option linter.unusedVariables false
set_option linter.unusedSimpArgs false
mutual
def length_Get.j0 : Nat → ByteArray → Int → Bool → Option (Int × Int × Int)
 | 0, _, _, _ => none
 | k + 1, x0, x1, x19 => if x19 = true then (some (0, 0, 1)) else (if x1 = (x0.size : Int) then (some (0, x1, 2)) else (if 0 ≤ x1 then (if x1 < (x0.size : Int) then (if (wrap64 (bt x0 x1)) < 128 then (some (wrap64 (bt x0 x1), wrap64 (x1 + 1), 0)) else (if (wrap64 ((wrap64 (bt x0 x1)) - 128)) = 0 then (length_Get.j1 k x0 x1 (wrap64 ((wrap64 (bt x0 x1)) - 128)) true) else (length_Get.j1 k x0 x1 (wrap64 ((wrap64 (bt x0 x1)) - 128)) (decide ((wrap64 ((wrap64 (bt x0 x1)) - 128)) > 8))))) else (none)) else (none)))
def length_Get.j1 : Nat → ByteArray → Int → Int → Bool → Option (Int × Int × Int)
 | 0, _, _, _, _ => none
 | k + 1, x0, x1, x8, x41 => if x41 = true then (some (0, x1, 4)) else (length_Get.l0 k x0 x1 x8 0 x8 0)
def length_Get.l0 : Nat → ByteArray → Int → Int → Int → Int → Int → Option (Int × Int × Int)
 | 0, _, _, _, _, _, _ => none
 | k + 1, x0, x1, x8, x9, x43, x44 => if x44 < x43 then (if (wrap64 ((wrap64 (x1 + 1)) + x44)) ≥ (x0.size : Int) then (some (0, (x0.size : Int), 2)) else (if 0 ≤ (wrap64 ((wrap64 (x1 + 1)) + x44)) then (if (wrap64 ((wrap64 (x1 + 1)) + x44)) < (x0.size : Int) then (if x44 = 0 then (if (bt x0 (wrap64 ((wrap64 (x1 + 1)) + x44))) = 0 then (some (0, wrap64 ((wrap64 (x1 + 1)) + x44), 4)) else (if x8 = 1 then (if (bt x0 (wrap64 ((wrap64 (x1 + 1)) + x44))) < 128 then (some (0, wrap64 ((wrap64 (x1 + 1)) + x44), 4)) else (length_Get.l0 k x0 x1 x8 (Go.bits .or .u64 (IntKind.u64.wrap (x9 * 256)) (IntKind.u64.wrap (bt x0 (wrap64 ((wrap64 (x1 + 1)) + x44))))) x43 (wrap64 (x44 + 1)))) else (length_Get.l0 k x0 x1 x8 (Go.bits .or .u64 (IntKind.u64.wrap (x9 * 256)) (IntKind.u64.wrap (bt x0 (wrap64 ((wrap64 (x1 + 1)) + x44))))) x43 (wrap64 (x44 + 1))))) else (length_Get.l0 k x0 x1 x8 (Go.bits .or .u64 (IntKind.u64.wrap (x9 * 256)) (IntKind.u64.wrap (bt x0 (wrap64 ((wrap64 (x1 + 1)) + x44))))) x43 (wrap64 (x44 + 1)))) else (none)) else (none))) else (if x9 > 2305843009213693951 then (some (0, wrap64 (x1 + x8), 4)) else (some (wrap64 (x9), wrap64 ((wrap64 (x1 + 1)) + x8), 0)))
end
def length_Get.f (k : Nat) (a0 : ByteArray) (a1 : Int) : Option (Int × Int × Int) := if a1 < 0 then (length_Get.j0 k a0 a1 true) else (length_Get.j0 k a0 a1 (decide (a1 > (a0.size : Int))))
set_option maxHeartbeats 8000000 in
set_option maxRecDepth 100000 in
theorem length_Get.calls (k : Nat) (a0 : ByteArray) (a1 : Int) (r1 : Int) (r2 : Int) (r3 : Int) (w : World) (h : length_Get.f k a0 a1 = some (r1, r2, r3)) :
 Calls Try.prog 95 #[.string a0, .int .i64 a1] w fun e w' => e = .returned (.tuple #[.int .i64 r1, .int .i64 r2, .int .i64 r3]) ∧ Drawn0 w w' := by
 unfold length_Get.f at h
 rcases k with _ | k
 ·
  simp [length_Get.j0] at h
 simp only [length_Get.j0, gt_iff_lt, ge_iff_le] at h
 cases e1 : decide (a1 < 0) <;> cases e2 : decide ((a0.size : Int) < a1)
 all_goals
  have q1 := e1
  simp only [decide_eq_true_eq, decide_eq_false_iff_not] at q1
  simp only [q1, e2, if_true, if_false, Bool.false_eq_true, reduceIte, reduceCtorEq] at h
  clear q1
 all_goals
  try
   (simp only [Option.some.injEq, Prod.mk.injEq] at h
    obtain ⟨rfl, rfl, rfl⟩ := h
    go_enter Try.func95, Try.ntmps95
    go_wp2
    go_ret3
    exact ⟨rfl, zz6⟩)
 obtain ⟨c, hc⟩ : ∃ c : Int, wrap64 (bt a0 a1) = c := ⟨_, rfl⟩
 simp only [hc] at h
 obtain ⟨n, hn⟩ : ∃ n : Int, wrap64 (c - 128) = n := ⟨_, rfl⟩
 simp only [hn] at h
 have hw : IntKind.i64.wrap (bt a0 a1) = c := (i64_w _).trans hc
 have hnw : IntKind.i64.wrap (c - 128) = n := (i64_w _).trans hn
 clear hn hc
 split at h
 ·
  rename_i g
  replace g := beq_iff_eq.2 g
  simp only [Option.some.injEq, Prod.mk.injEq] at h
  obtain ⟨rfl, rfl, rfl⟩ := h
  go_enter Try.func95, Try.ntmps95
  go_wp2
  go_ret3
  exact ⟨rfl, zz6⟩
 rename_i g
 replace g := beq_eq_false_iff_ne.2 g
 split at h
 case isFalse => cases h
 rename_i p1
 split at h
 case isFalse => cases h
 rename_i p2
 have hx := bt_at a0 a1
 replace p1 := eq_true p1
 replace p2 := eq_true p2
 split at h
 ·
  rename_i g2
  replace g2 := decide_eq_true g2
  simp only [Option.some.injEq, Prod.mk.injEq] at h
  obtain ⟨rfl, rfl, rfl⟩ := h
  go_enter Try.func95, Try.ntmps95
  go_wp2
  go_ret3
  exact ⟨by first | rfl | simp only [i64_w], zz6⟩
 rename_i g2
 replace g2 := decide_eq_false g2
 rcases k with _ | k
 ·
  simp [length_Get.j1] at h
 simp only [length_Get.j1] at h
 cases e3 : (n == 0) <;> cases e4 : decide (8 < n)
 all_goals
  have q3 := e3
  simp only [beq_iff_eq, beq_eq_false_iff_ne, ne_eq] at q3
  simp only [q3, e4, if_true, if_false, Bool.false_eq_true, reduceIte, reduceCtorEq] at h
  try clear q3
 all_goals
  try
   (simp only [Option.some.injEq, Prod.mk.injEq] at h
    obtain ⟨rfl, rfl, rfl⟩ := h
    go_enter Try.func95, Try.ntmps95
    go_wp2
    go_ret3
    exact ⟨rfl, zz6⟩)
 have H' := Aside0.mk h
 clear h
 go_enter Try.func95, Try.ntmps95
 go_wp2
 go_loopg [9, 44] k (fun gk v9 v44 w' => ∃ (x9 x44 : Int), v9 = .int .u64 x9 ∧ v44 = .int .i64 x44 ∧ Aside0 (length_Get.l0 gk a0 a1 n x9 n x44 = some (r1, r2, r3)) ∧ Drawn0 w w')
 case atStart => exact ⟨0, 0, rfl, rfl, H', zz6⟩
 case round =>
  clear H' e1 e2 e3 e4 g g2 hx p1 p2 hw hnw
  obtain ⟨x9, x44, rfl, rfl, HA, ⟨m8, rfl⟩⟩ := hrel
  cases gk with
  | zero => exact absurd HA.out (by simp [length_Get.l0])
  | succ k8 =>
    have H := HA.out
    clear HA
    obtain ⟨j, hj⟩ : ∃ j : Int, wrap64 (wrap64 (a1 + 1) + x44) = j := ⟨_, rfl⟩
    have hj1 := i64_w (a1 + 1)
    have hj2 : IntKind.i64.wrap (wrap64 (a1 + 1) + x44) = j := (i64_w _).trans hj
    simp only [length_Get.l0, hj, gt_iff_lt, ge_iff_le] at H
    split at H
    ·
     rename_i c1
     replace c1 := decide_eq_true c1
     split at H
     ·
      rename_i c2
      replace c2 := decide_eq_true c2
      simp only [Option.some.injEq, Prod.mk.injEq] at H
      obtain ⟨rfl, rfl, rfl⟩ := H
      go_wp2
      go_ret3
      exact ⟨rfl, zz6⟩
     rename_i c2
     replace c2 := decide_eq_false c2
     split at H
     case isFalse => cases H
     rename_i p1
     split at H
     case isFalse => cases H
     rename_i p2
     have hx := bt_at a0 j
     replace p1 := eq_true p1
     replace p2 := eq_true p2
     all_goals try (split at H <;> rename_i g1 <;> first | replace g1 := beq_eq_false_iff_ne.2 g1 | replace g1 := beq_iff_eq.2 g1)
     all_goals try (split at H <;> rename_i g2 <;> first | replace g2 := beq_eq_false_iff_ne.2 g2 | replace g2 := beq_iff_eq.2 g2)
     all_goals try (split at H <;> rename_i g3 <;> first | replace g3 := beq_eq_false_iff_ne.2 g3 | replace g3 := beq_iff_eq.2 g3)
     all_goals try (split at H <;> rename_i g4 <;> first | replace g4 := decide_eq_false g4 | replace g4 := decide_eq_true g4)
     all_goals first
      | (simp only [Option.some.injEq, Prod.mk.injEq] at H
         obtain ⟨rfl, rfl, rfl⟩ := H
         go_wp2
         go_ret3
         exact ⟨rfl, zz6⟩)
      | (have H' := Aside0.mk H
         clear H
         go_wp2
         go_roundg k8
         case measure => omega
         case rel => exact ⟨_, _, by first | rfl | simp only [i64_w], by first | rfl | simp only [i64_w], H', zz6⟩)
    ·
     rename_i c1
     replace c1 := decide_eq_false c1
     have hj3 := i64_w (a1 + n)
     have hj4 := i64_w (wrap64 (a1 + 1) + n)
     have hj5 := i64_w x9
     split at H <;> rename_i g1 <;> first | replace g1 := decide_eq_false g1 | replace g1 := decide_eq_true g1
     all_goals
      simp only [Option.some.injEq, Prod.mk.injEq] at H
      obtain ⟨rfl, rfl, rfl⟩ := H
      go_wp2
      go_ret3
      exact ⟨by first | rfl | simp only [i64_w], zz6⟩
end Go.Proofs.Ytcfommconnlhgaa.PC
namespace Go.Proofs.Ytcfommconnlhgaa.PC
open RowKit YtcfommconnlhgaaW.PrintWords YtcfommconnlhgaaW.PrintLast YtcfommconnlhgaaW.PrintMore
attribute [local go_sem] max2_int min2_int max_two min_two max_three min_three max_four min_four
set_option linter.unusedVariables false
set_option linter.unusedSimpArgs false
open Own
def head_Get.f (k : Nat) (a0 : ByteArray) (a1 : Int) : Option (Int × Int × Bool × Int × Int × Int) := (ident_Get.f k a0 a1).bind fun bt181 => (if bt181.2.2.2.2.2 = 0 then ((length_Get.f k a0 bt181.2.2.2.2.1).bind fun bt188 => (if bt188.2.2 = 0 then (some (bt181.1, bt181.2.1, bt181.2.2.1, bt188.1, bt188.2.1, 0)) else (some (0, 0, false, 0, bt188.2.1, bt188.2.2)))) else (some (0, 0, false, 0, bt181.2.2.2.2.1, bt181.2.2.2.2.2)))
set_option maxHeartbeats 4000000 in
set_option maxRecDepth 100000 in
theorem head_Get.ok (k : Nat) (a0 : ByteArray) (a1 t1 t2 : Int) (t3 : Bool) (t4 t5 t6 : Int) (t8 t9 t10 : Int) (h1 : ident_Get.f k a0 a1 = some (t1, t2, t3, t4, t5, t6)) (h0 : t6 = 0) (h2 : length_Get.f k a0 t5 = some (t8, t9, t10)) (h3 : t10 = 0) (w : World) :
 Calls Try.prog 86 #[.string a0, .int .i64 a1] w fun e w' => e = .returned (.tuple #[.agg #[.int .i64 t1, .int .i64 t2, .bool t3, .int .i64 t8], .int .i64 t9, .int .i64 0]) ∧ Below w.heap.size w w' := by
 have HU := Aside0.mk (Upd.refl None0 w)
 have A3 := Aside0.mk h1
 have hu_ := Try.underlying32
 have A5 := Aside0.mk h2
 subst h0 h3
 clear h1 h2
 go_enter Try.func86, Try.ntmps86
 go_wp2_with (first
  | ((with_reducible refine gate_dst (N := 4) rfl ?_)
     refine boxnew ?hg (N := 4) ?hd (cs := #[.int .i64 0, .int .i64 0, .bool false, .int .i64 0]) (t := 32) ?hr ?_; (case hd => rfl); (case hg => rfl); (case hr => first | (go_simp; done) | (go_simp; rfl))
     intro g_R hge w1 hbox hu
     have GE_R := Aside0.mk (Nat.le_trans (zz7 : Upd None0 w _).size hge)
     replace HU := Aside0.mk ((zz7 : Upd None0 w _).trans hu (fun _ h => h.elim))
     clear hu
     have B_R := Aside0.mk hbox; clear hbox hge
     have hc_R_0 := co B_R 0 (.int .i64 0) rfl; have hc_R_1 := co B_R 1 (.int .i64 0) rfl; have hc_R_2 := co B_R 2 (.bool false) rfl; have hc_R_3 := co B_R 3 (.int .i64 0) rfl)
  | (go_at_call 94
     (with_reducible refine (ident_Get.calls k a0 a1 t1 t2 t3 t4 t5 0 _ A3.out).mono ?_)
     rintro e w2 ⟨rfl, hb⟩
     have hu := (Upd.of_below hb : Upd None0 _ _)
     replace B_R := Aside0.mk (hu.blk zz21 (fun h => h))
     replace HU := Aside0.mk ((zz7 : Upd None0 w _).trans hu (fun _ h => h.elim))
     clear hu
     (try clear hc_R_0 hc_R_1 hc_R_2 hc_R_3)
     have hc_R_0 := co B_R 0 (.int .i64 0) rfl; have hc_R_1 := co B_R 1 (.int .i64 0) rfl; have hc_R_2 := co B_R 2 (.bool false) rfl; have hc_R_3 := co B_R 3 (.int .i64 0) rfl)
  | ((with_reducible refine gate_dst (N := 7) rfl ?_)
     refine boxnew ?hg (N := 7) ?hd (cs := #[.int .i64 0, .int .i64 0, .bool false, .int .i64 0]) (t := 32) ?hr ?_; (case hd => rfl); (case hg => rfl); (case hr => first | (go_simp; done) | (go_simp; rfl))
     intro g_H hge w3 hbox hu
     have NE_H_R := Aside0.mk (Ne.symm (blk_fresh zz21 hge))
     have GE_H := Aside0.mk (Nat.le_trans (zz7 : Upd None0 w _).size hge)
     replace B_R := Aside0.mk (hu.blk zz21 (fun h => h))
     replace HU := Aside0.mk ((zz7 : Upd None0 w _).trans hu (fun _ h => h.elim))
     clear hu
     have B_H := Aside0.mk hbox; clear hbox hge
     (try clear hc_R_0 hc_R_1 hc_R_2 hc_R_3)
     have hc_R_0 := co B_R 0 (.int .i64 0) rfl; have hc_R_1 := co B_R 1 (.int .i64 0) rfl; have hc_R_2 := co B_R 2 (.bool false) rfl; have hc_R_3 := co B_R 3 (.int .i64 0) rfl; have hc_H_0 := co B_H 0 (.int .i64 0) rfl; have hc_H_1 := co B_H 1 (.int .i64 0) rfl; have hc_H_2 := co B_H 2 (.bool false) rfl; have hc_H_3 := co B_H 3 (.int .i64 0) rfl)
  | ((with_reducible refine gate_store (t := 32) (p := 7) (v := .tmp 15) rfl ?_)
     refine rowput rfl 32 (.tmp 7) (.tmp 15) rfl rfl g_H #[.int .i64 t1, .int .i64 t2, .bool t3, .int .i64 t4] rfl rfl 32 #[.int .i64 0, .int .i64 0, .bool false, .int .i64 0] zz18 zz5 rfl zz16 ?_
     intro w4 hbox hu
     replace B_R := Aside0.mk (hu.blk zz21 (Ne.symm NE_H_R.out))
     replace HU := Aside0.mk ((zz7 : Upd None0 w _).trans hu (fun k hk => .inr zz30))
     clear hu
     clear B_H; have B_H := Aside0.mk hbox; clear hbox
     (try clear hc_R_0 hc_R_1 hc_R_2 hc_R_3 hc_H_0 hc_H_1 hc_H_2 hc_H_3)
     have hc_R_0 := co B_R 0 (.int .i64 0) rfl; have hc_R_1 := co B_R 1 (.int .i64 0) rfl; have hc_R_2 := co B_R 2 (.bool false) rfl; have hc_R_3 := co B_R 3 (.int .i64 0) rfl; have hc_H_0 := co B_H 0 (.int .i64 t1) rfl; have hc_H_1 := co B_H 1 (.int .i64 t2) rfl; have hc_H_2 := co B_H 2 (.bool t3) rfl; have hc_H_3 := co B_H 3 (.int .i64 t4) rfl)
  | (go_at_call 95
     (with_reducible refine (length_Get.calls k a0 t5 t8 t9 0 _ A5.out).mono ?_)
     rintro e w5 ⟨rfl, hb⟩
     have hu := (Upd.of_below hb.below : Upd None0 _ _)
     replace B_R := Aside0.mk (hu.blk zz21 (fun h => h))
     replace B_H := Aside0.mk (hu.blk zz18 (fun h => h))
     replace HU := Aside0.mk ((zz7 : Upd None0 w _).trans hu (fun _ h => h.elim))
     clear hu
     (try clear hc_R_0 hc_R_1 hc_R_2 hc_R_3 hc_H_0 hc_H_1 hc_H_2 hc_H_3)
     have hc_R_0 := co B_R 0 (.int .i64 0) rfl; have hc_R_1 := co B_R 1 (.int .i64 0) rfl; have hc_R_2 := co B_R 2 (.bool false) rfl; have hc_R_3 := co B_R 3 (.int .i64 0) rfl; have hc_H_0 := co B_H 0 (.int .i64 t1) rfl; have hc_H_1 := co B_H 1 (.int .i64 t2) rfl; have hc_H_2 := co B_H 2 (.bool t3) rfl; have hc_H_3 := co B_H 3 (.int .i64 t4) rfl)
  | ((with_reducible refine gate_store (t := 3) (p := 36) (v := .tmp 35) rfl ?_)
     refine cellput rfl 3 (.tmp 36) (.tmp 35) rfl rfl g_H 3 (.int .i64 t8) rfl rfl 32 #[.int .i64 t1, .int .i64 t2, .bool t3, .int .i64 t4] #[.int .i64 t1, .int .i64 t2, .bool t3, .int .i64 t8] zz18 zz5 zz19 rfl rfl ?_
     intro w6 hbox hu
     replace B_R := Aside0.mk (hu.blk zz21 (Ne.symm NE_H_R.out))
     replace HU := Aside0.mk ((zz7 : Upd None0 w _).trans hu (fun k hk => .inr zz30))
     clear hu
     clear B_H; have B_H := Aside0.mk hbox; clear hbox
     (try clear hc_R_0 hc_R_1 hc_R_2 hc_R_3 hc_H_0 hc_H_1 hc_H_2 hc_H_3)
     have hc_R_0 := co B_R 0 (.int .i64 0) rfl; have hc_R_1 := co B_R 1 (.int .i64 0) rfl; have hc_R_2 := co B_R 2 (.bool false) rfl; have hc_R_3 := co B_R 3 (.int .i64 0) rfl; have hc_H_0 := co B_H 0 (.int .i64 t1) rfl; have hc_H_1 := co B_H 1 (.int .i64 t2) rfl; have hc_H_2 := co B_H 2 (.bool t3) rfl; have hc_H_3 := co B_H 3 (.int .i64 t8) rfl)
  | ((with_reducible refine gate_store (t := 32) (p := 4) (v := .tmp 37) rfl ?_)
     refine rowput rfl 32 (.tmp 4) (.tmp 37) rfl rfl g_R #[.int .i64 t1, .int .i64 t2, .bool t3, .int .i64 t8] rfl rfl 32 #[.int .i64 0, .int .i64 0, .bool false, .int .i64 0] zz21 zz5 rfl zz16 ?_
     intro w7 hbox hu
     replace B_H := Aside0.mk (hu.blk zz18 NE_H_R.out)
     replace HU := Aside0.mk ((zz7 : Upd None0 w _).trans hu (fun k hk => .inr (by rw [hk]; exact GE_R.out)))
     clear hu
     clear B_R; have B_R := Aside0.mk hbox; clear hbox
     (try clear hc_R_0 hc_R_1 hc_R_2 hc_R_3 hc_H_0 hc_H_1 hc_H_2 hc_H_3)
     have hc_R_0 := co B_R 0 (.int .i64 t1) rfl; have hc_R_1 := co B_R 1 (.int .i64 t2) rfl; have hc_R_2 := co B_R 2 (.bool t3) rfl; have hc_R_3 := co B_R 3 (.int .i64 t8) rfl; have hc_H_0 := co B_H 0 (.int .i64 t1) rfl; have hc_H_1 := co B_H 1 (.int .i64 t2) rfl; have hc_H_2 := co B_H 2 (.bool t3) rfl; have hc_H_3 := co B_H 3 (.int .i64 t8) rfl))
 refine bodyPost_ret (results_ctt rfl _ _ g_R 32 #[.int .i64 t1, .int .i64 t2, .bool t3, .int .i64 t8] (0, 0) _ rfl zz21 Try.underlying32 rfl zz5) rfl ?_
 exact ⟨rfl, Upd.below0 zz7⟩
set_option maxHeartbeats 4000000 in
set_option maxRecDepth 100000 in
theorem head_Get.cut (k : Nat) (a0 : ByteArray) (a1 t1 t2 : Int) (t3 : Bool) (t4 t5 t6 : Int) (t8 t9 t10 : Int) (h1 : ident_Get.f k a0 a1 = some (t1, t2, t3, t4, t5, t6)) (h0 : t6 = 0) (h2 : length_Get.f k a0 t5 = some (t8, t9, t10)) (h3 : t10 ≠ 0) (w : World) :
 Calls Try.prog 86 #[.string a0, .int .i64 a1] w fun e w' => e = .returned (.tuple #[.agg #[.int .i64 0, .int .i64 0, .bool false, .int .i64 0], .int .i64 t9, .int .i64 t10]) ∧ Below w.heap.size w w' := by
 have HU := Aside0.mk (Upd.refl None0 w)
 have A3 := Aside0.mk h1
 have hu_ := Try.underlying32
 have A5 := Aside0.mk h2
 subst h0
 have c1 : (t10 != 0) = true := bne_iff_ne.2 h3
 clear h1 h2
 go_enter Try.func86, Try.ntmps86
 go_wp2_with (first
  | ((with_reducible refine gate_dst (N := 4) rfl ?_)
     refine boxnew ?hg (N := 4) ?hd (cs := #[.int .i64 0, .int .i64 0, .bool false, .int .i64 0]) (t := 32) ?hr ?_; (case hd => rfl); (case hg => rfl); (case hr => first | (go_simp; done) | (go_simp; rfl))
     intro g_R hge w1 hbox hu
     have GE_R := Aside0.mk (Nat.le_trans (zz7 : Upd None0 w _).size hge)
     replace HU := Aside0.mk ((zz7 : Upd None0 w _).trans hu (fun _ h => h.elim))
     clear hu
     have B_R := Aside0.mk hbox; clear hbox hge
     have hc_R_0 := co B_R 0 (.int .i64 0) rfl; have hc_R_1 := co B_R 1 (.int .i64 0) rfl; have hc_R_2 := co B_R 2 (.bool false) rfl; have hc_R_3 := co B_R 3 (.int .i64 0) rfl)
  | (go_at_call 94
     (with_reducible refine (ident_Get.calls k a0 a1 t1 t2 t3 t4 t5 0 _ A3.out).mono ?_)
     rintro e w2 ⟨rfl, hb⟩
     have hu := (Upd.of_below hb : Upd None0 _ _)
     replace B_R := Aside0.mk (hu.blk zz21 (fun h => h))
     replace HU := Aside0.mk ((zz7 : Upd None0 w _).trans hu (fun _ h => h.elim))
     clear hu
     (try clear hc_R_0 hc_R_1 hc_R_2 hc_R_3)
     have hc_R_0 := co B_R 0 (.int .i64 0) rfl; have hc_R_1 := co B_R 1 (.int .i64 0) rfl; have hc_R_2 := co B_R 2 (.bool false) rfl; have hc_R_3 := co B_R 3 (.int .i64 0) rfl)
  | ((with_reducible refine gate_dst (N := 7) rfl ?_)
     refine boxnew ?hg (N := 7) ?hd (cs := #[.int .i64 0, .int .i64 0, .bool false, .int .i64 0]) (t := 32) ?hr ?_; (case hd => rfl); (case hg => rfl); (case hr => first | (go_simp; done) | (go_simp; rfl))
     intro g_H hge w3 hbox hu
     have NE_H_R := Aside0.mk (Ne.symm (blk_fresh zz21 hge))
     have GE_H := Aside0.mk (Nat.le_trans (zz7 : Upd None0 w _).size hge)
     replace B_R := Aside0.mk (hu.blk zz21 (fun h => h))
     replace HU := Aside0.mk ((zz7 : Upd None0 w _).trans hu (fun _ h => h.elim))
     clear hu
     have B_H := Aside0.mk hbox; clear hbox hge
     (try clear hc_R_0 hc_R_1 hc_R_2 hc_R_3)
     have hc_R_0 := co B_R 0 (.int .i64 0) rfl; have hc_R_1 := co B_R 1 (.int .i64 0) rfl; have hc_R_2 := co B_R 2 (.bool false) rfl; have hc_R_3 := co B_R 3 (.int .i64 0) rfl; have hc_H_0 := co B_H 0 (.int .i64 0) rfl; have hc_H_1 := co B_H 1 (.int .i64 0) rfl; have hc_H_2 := co B_H 2 (.bool false) rfl; have hc_H_3 := co B_H 3 (.int .i64 0) rfl)
  | ((with_reducible refine gate_store (t := 32) (p := 7) (v := .tmp 15) rfl ?_)
     refine rowput rfl 32 (.tmp 7) (.tmp 15) rfl rfl g_H #[.int .i64 t1, .int .i64 t2, .bool t3, .int .i64 t4] rfl rfl 32 #[.int .i64 0, .int .i64 0, .bool false, .int .i64 0] zz18 zz5 rfl zz16 ?_
     intro w4 hbox hu
     replace B_R := Aside0.mk (hu.blk zz21 (Ne.symm NE_H_R.out))
     replace HU := Aside0.mk ((zz7 : Upd None0 w _).trans hu (fun k hk => .inr zz30))
     clear hu
     clear B_H; have B_H := Aside0.mk hbox; clear hbox
     (try clear hc_R_0 hc_R_1 hc_R_2 hc_R_3 hc_H_0 hc_H_1 hc_H_2 hc_H_3)
     have hc_R_0 := co B_R 0 (.int .i64 0) rfl; have hc_R_1 := co B_R 1 (.int .i64 0) rfl; have hc_R_2 := co B_R 2 (.bool false) rfl; have hc_R_3 := co B_R 3 (.int .i64 0) rfl; have hc_H_0 := co B_H 0 (.int .i64 t1) rfl; have hc_H_1 := co B_H 1 (.int .i64 t2) rfl; have hc_H_2 := co B_H 2 (.bool t3) rfl; have hc_H_3 := co B_H 3 (.int .i64 t4) rfl)
  | (go_at_call 95
     (with_reducible refine (length_Get.calls k a0 t5 t8 t9 t10 _ A5.out).mono ?_)
     rintro e w5 ⟨rfl, hb⟩
     have hu := (Upd.of_below hb.below : Upd None0 _ _)
     replace B_R := Aside0.mk (hu.blk zz21 (fun h => h))
     replace B_H := Aside0.mk (hu.blk zz18 (fun h => h))
     replace HU := Aside0.mk ((zz7 : Upd None0 w _).trans hu (fun _ h => h.elim))
     clear hu
     (try clear hc_R_0 hc_R_1 hc_R_2 hc_R_3 hc_H_0 hc_H_1 hc_H_2 hc_H_3)
     have hc_R_0 := co B_R 0 (.int .i64 0) rfl; have hc_R_1 := co B_R 1 (.int .i64 0) rfl; have hc_R_2 := co B_R 2 (.bool false) rfl; have hc_R_3 := co B_R 3 (.int .i64 0) rfl; have hc_H_0 := co B_H 0 (.int .i64 t1) rfl; have hc_H_1 := co B_H 1 (.int .i64 t2) rfl; have hc_H_2 := co B_H 2 (.bool t3) rfl; have hc_H_3 := co B_H 3 (.int .i64 t4) rfl)
  | ((with_reducible refine gate_store (t := 32) (p := 4) (v := .tmp 32) rfl ?_)
     refine rowput rfl 32 (.tmp 4) (.tmp 32) rfl rfl g_R #[.int .i64 0, .int .i64 0, .bool false, .int .i64 0] rfl rfl 32 #[.int .i64 0, .int .i64 0, .bool false, .int .i64 0] zz21 zz5 rfl zz16 ?_
     intro w6 hbox hu
     replace B_H := Aside0.mk (hu.blk zz18 NE_H_R.out)
     replace HU := Aside0.mk ((zz7 : Upd None0 w _).trans hu (fun k hk => .inr (by rw [hk]; exact GE_R.out)))
     clear hu
     clear B_R; have B_R := Aside0.mk hbox; clear hbox
     (try clear hc_R_0 hc_R_1 hc_R_2 hc_R_3 hc_H_0 hc_H_1 hc_H_2 hc_H_3)
     have hc_R_0 := co B_R 0 (.int .i64 0) rfl; have hc_R_1 := co B_R 1 (.int .i64 0) rfl; have hc_R_2 := co B_R 2 (.bool false) rfl; have hc_R_3 := co B_R 3 (.int .i64 0) rfl; have hc_H_0 := co B_H 0 (.int .i64 t1) rfl; have hc_H_1 := co B_H 1 (.int .i64 t2) rfl; have hc_H_2 := co B_H 2 (.bool t3) rfl; have hc_H_3 := co B_H 3 (.int .i64 t4) rfl))
 refine bodyPost_ret (results_ctt rfl _ _ g_R 32 #[.int .i64 0, .int .i64 0, .bool false, .int .i64 0] (0, 0) _ rfl zz21 Try.underlying32 rfl zz5) rfl ?_
 exact ⟨rfl, Upd.below0 zz7⟩
set_option maxHeartbeats 4000000 in
set_option maxRecDepth 100000 in
theorem head_Get.no (k : Nat) (a0 : ByteArray) (a1 t1 t2 : Int) (t3 : Bool) (t4 t5 t6 : Int) (h1 : ident_Get.f k a0 a1 = some (t1, t2, t3, t4, t5, t6)) (h0 : t6 ≠ 0) (w : World) :
 Calls Try.prog 86 #[.string a0, .int .i64 a1] w fun e w' => e = .returned (.tuple #[.agg #[.int .i64 0, .int .i64 0, .bool false, .int .i64 0], .int .i64 t5, .int .i64 t6]) ∧ Below w.heap.size w w' := by
 have HU := Aside0.mk (Upd.refl None0 w)
 have A3 := Aside0.mk h1
 have hu_ := Try.underlying32
 have c1 : (t6 != 0) = true := bne_iff_ne.2 h0
 clear h1
 go_enter Try.func86, Try.ntmps86
 go_wp2_with (first
  | ((with_reducible refine gate_dst (N := 4) rfl ?_)
     refine boxnew ?hg (N := 4) ?hd (cs := #[.int .i64 0, .int .i64 0, .bool false, .int .i64 0]) (t := 32) ?hr ?_; (case hd => rfl); (case hg => rfl); (case hr => first | (go_simp; done) | (go_simp; rfl))
     intro g_R hge w1 hbox hu
     have GE_R := Aside0.mk (Nat.le_trans (zz7 : Upd None0 w _).size hge)
     replace HU := Aside0.mk ((zz7 : Upd None0 w _).trans hu (fun _ h => h.elim))
     clear hu
     have B_R := Aside0.mk hbox; clear hbox hge
     have hc_R_0 := co B_R 0 (.int .i64 0) rfl; have hc_R_1 := co B_R 1 (.int .i64 0) rfl; have hc_R_2 := co B_R 2 (.bool false) rfl; have hc_R_3 := co B_R 3 (.int .i64 0) rfl)
  | (go_at_call 94
     (with_reducible refine (ident_Get.calls k a0 a1 t1 t2 t3 t4 t5 t6 _ A3.out).mono ?_)
     rintro e w2 ⟨rfl, hb⟩
     have hu := (Upd.of_below hb : Upd None0 _ _)
     replace B_R := Aside0.mk (hu.blk zz21 (fun h => h))
     replace HU := Aside0.mk ((zz7 : Upd None0 w _).trans hu (fun _ h => h.elim))
     clear hu
     (try clear hc_R_0 hc_R_1 hc_R_2 hc_R_3)
     have hc_R_0 := co B_R 0 (.int .i64 0) rfl; have hc_R_1 := co B_R 1 (.int .i64 0) rfl; have hc_R_2 := co B_R 2 (.bool false) rfl; have hc_R_3 := co B_R 3 (.int .i64 0) rfl)
  | ((with_reducible refine gate_dst (N := 7) rfl ?_)
     refine boxnew ?hg (N := 7) ?hd (cs := #[.int .i64 0, .int .i64 0, .bool false, .int .i64 0]) (t := 32) ?hr ?_; (case hd => rfl); (case hg => rfl); (case hr => first | (go_simp; done) | (go_simp; rfl))
     intro g_H hge w3 hbox hu
     have NE_H_R := Aside0.mk (Ne.symm (blk_fresh zz21 hge))
     have GE_H := Aside0.mk (Nat.le_trans (zz7 : Upd None0 w _).size hge)
     replace B_R := Aside0.mk (hu.blk zz21 (fun h => h))
     replace HU := Aside0.mk ((zz7 : Upd None0 w _).trans hu (fun _ h => h.elim))
     clear hu
     have B_H := Aside0.mk hbox; clear hbox hge
     (try clear hc_R_0 hc_R_1 hc_R_2 hc_R_3)
     have hc_R_0 := co B_R 0 (.int .i64 0) rfl; have hc_R_1 := co B_R 1 (.int .i64 0) rfl; have hc_R_2 := co B_R 2 (.bool false) rfl; have hc_R_3 := co B_R 3 (.int .i64 0) rfl; have hc_H_0 := co B_H 0 (.int .i64 0) rfl; have hc_H_1 := co B_H 1 (.int .i64 0) rfl; have hc_H_2 := co B_H 2 (.bool false) rfl; have hc_H_3 := co B_H 3 (.int .i64 0) rfl)
  | ((with_reducible refine gate_store (t := 32) (p := 7) (v := .tmp 15) rfl ?_)
     refine rowput rfl 32 (.tmp 7) (.tmp 15) rfl rfl g_H #[.int .i64 t1, .int .i64 t2, .bool t3, .int .i64 t4] rfl rfl 32 #[.int .i64 0, .int .i64 0, .bool false, .int .i64 0] zz18 zz5 rfl zz16 ?_
     intro w4 hbox hu
     replace B_R := Aside0.mk (hu.blk zz21 (Ne.symm NE_H_R.out))
     replace HU := Aside0.mk ((zz7 : Upd None0 w _).trans hu (fun k hk => .inr zz30))
     clear hu
     clear B_H; have B_H := Aside0.mk hbox; clear hbox
     (try clear hc_R_0 hc_R_1 hc_R_2 hc_R_3 hc_H_0 hc_H_1 hc_H_2 hc_H_3)
     have hc_R_0 := co B_R 0 (.int .i64 0) rfl; have hc_R_1 := co B_R 1 (.int .i64 0) rfl; have hc_R_2 := co B_R 2 (.bool false) rfl; have hc_R_3 := co B_R 3 (.int .i64 0) rfl; have hc_H_0 := co B_H 0 (.int .i64 t1) rfl; have hc_H_1 := co B_H 1 (.int .i64 t2) rfl; have hc_H_2 := co B_H 2 (.bool t3) rfl; have hc_H_3 := co B_H 3 (.int .i64 t4) rfl)
  | ((with_reducible refine gate_store (t := 32) (p := 4) (v := .tmp 20) rfl ?_)
     refine rowput rfl 32 (.tmp 4) (.tmp 20) rfl rfl g_R #[.int .i64 0, .int .i64 0, .bool false, .int .i64 0] rfl rfl 32 #[.int .i64 0, .int .i64 0, .bool false, .int .i64 0] zz21 zz5 rfl zz16 ?_
     intro w5 hbox hu
     replace B_H := Aside0.mk (hu.blk zz18 NE_H_R.out)
     replace HU := Aside0.mk ((zz7 : Upd None0 w _).trans hu (fun k hk => .inr (by rw [hk]; exact GE_R.out)))
     clear hu
     clear B_R; have B_R := Aside0.mk hbox; clear hbox
     (try clear hc_R_0 hc_R_1 hc_R_2 hc_R_3 hc_H_0 hc_H_1 hc_H_2 hc_H_3)
     have hc_R_0 := co B_R 0 (.int .i64 0) rfl; have hc_R_1 := co B_R 1 (.int .i64 0) rfl; have hc_R_2 := co B_R 2 (.bool false) rfl; have hc_R_3 := co B_R 3 (.int .i64 0) rfl; have hc_H_0 := co B_H 0 (.int .i64 t1) rfl; have hc_H_1 := co B_H 1 (.int .i64 t2) rfl; have hc_H_2 := co B_H 2 (.bool t3) rfl; have hc_H_3 := co B_H 3 (.int .i64 t4) rfl))
 refine bodyPost_ret (results_ctt rfl _ _ g_R 32 #[.int .i64 0, .int .i64 0, .bool false, .int .i64 0] (0, 0) _ rfl zz21 Try.underlying32 rfl zz5) rfl ?_
 exact ⟨rfl, Upd.below0 zz7⟩
theorem head_Get.calls (k : Nat) (a0 : ByteArray) (a1 : Int) (r1 : Int) (r2 : Int) (r3 : Bool) (r4 : Int) (r5 : Int) (r6 : Int) (w : World) (h : head_Get.f k a0 a1 = some (r1, r2, r3, r4, r5, r6)) :
 Calls Try.prog 86 #[.string a0, .int .i64 a1] w fun e w' => e = .returned (.tuple #[.agg #[.int .i64 r1, .int .i64 r2, .bool r3, .int .i64 r4], .int .i64 r5, .int .i64 r6]) ∧ Below w.heap.size w w' := by
 unfold head_Get.f at h
 obtain ⟨⟨t1, t2, t3, t4, t5, t6⟩, h1, h⟩ := Option.bind_eq_some_iff.mp h
 simp only at h
 by_cases c : t6 = 0
 ·
  rw [if_pos c] at h
  obtain ⟨⟨t8, t9, t10⟩, h2, h⟩ := Option.bind_eq_some_iff.mp h
  simp only at h
  by_cases c2 : t10 = 0
  ·
   rw [if_pos c2] at h
   simp only [Option.some.injEq, Prod.mk.injEq] at h
   obtain ⟨rfl, rfl, rfl, rfl, rfl, rfl⟩ := h
   exact head_Get.ok k a0 a1 _ _ _ _ _ _ _ _ _ h1 c h2 c2 w
  ·
   rw [if_neg c2] at h
   simp only [Option.some.injEq, Prod.mk.injEq] at h
   obtain ⟨rfl, rfl, rfl, rfl, rfl, rfl⟩ := h
   exact head_Get.cut k a0 a1 _ _ _ _ _ _ _ _ _ h1 c h2 c2 w
 ·
  rw [if_neg c] at h
  simp only [Option.some.injEq, Prod.mk.injEq] at h
  obtain ⟨rfl, rfl, rfl, rfl, rfl, rfl⟩ := h
  exact head_Get.no k a0 a1 _ _ _ _ _ _ h1 c w
end Go.Proofs.Ytcfommconnlhgaa.PC
