/- What the row of ValueRight stands on, made small by a program of this session (pack.py). -/
import Derived.Test.YtpfconocipmcjaaCValueRight2
import Derived.Test.YtpfconocipmcjaaCValueRight3
import Derived.Test.YtpfconocipmcjaaCValueRight4
namespace Go.Proofs.Ytpfconocipmcjaa.PC
open Own Sl
open RowKit YtpfconocipmcjaaW.PrintWords YtpfconocipmcjaaW.PrintLast YtpfconocipmcjaaW.PrintMore
attribute [local go_sem] max2_int min2_int max_two min_two max_three min_three max_four min_four
set_option linter.unusedVariables false
set_option linter.unusedSimpArgs false
def oid_Start.f (a0 : Int) : Option (Int × Bool × Bool) := if a0 < 1 then (some (0, false, false)) else (some (a0, false, true))
set_option maxHeartbeats 8000000 in
set_option maxRecDepth 100000 in
theorem oid_Start.calls (a0 : Int) (r1 : Int) (r2 : Bool) (r3 : Bool) (w : World) (h : oid_Start.f a0 = some (r1, r2, r3)) :
 Calls Try.prog 48 #[.int .i64 a0] w fun e w' => e = .returned (.tuple #[.agg #[.int .i64 r1, .bool r2], .bool r3]) ∧ Below w.heap.size w w' := by
 have hS := Sp.nil (w := w) (S := None0)
 have hu := Try.underlying86
 unfold oid_Start.f at h
 cases c1 : decide (a0 < 1)
 all_goals
  have d1 := c1
  simp only [decide_eq_true_eq, decide_eq_false_iff_not] at d1
  simp only [d1, if_true, if_false, Option.some.injEq, Prod.mk.injEq, reduceIte] at h
  obtain ⟨rfl, rfl, rfl⟩ := h
  clear d1
  go_enter Try.func48, Try.ntmps48
  go_wp2_with (first
   | ((with_reducible refine gate_dst (N := 2) rfl ?_)
      refine sp_box hS rfl (N := 2) rfl _ 86 zz11 ?_
      intro g2 w2 hg2 hS)
   | ((with_reducible refine gate_store (t := 86) (p := 2) (v := .tmp 6) rfl ?_)
      refine sp_row hS 0 rfl 86 (.tmp 2) (.tmp 6) rfl rfl g2 _ rfl rfl 86 _ rfl zz12 rfl zz31 rfl ?_
      intro w6 hS)
   | ((with_reducible refine gate_store (t := 86) (p := 2) (v := .tmp 8) rfl ?_)
      refine sp_row hS 0 rfl 86 (.tmp 2) (.tmp 8) rfl rfl g2 _ rfl rfl 86 _ rfl zz12 rfl zz31 rfl ?_
      intro w8 hS))
  refine bodyPost_ret (results_ct rfl _ _ g2 86 _ (0, 0) _ rfl (hS.blk 0) Try.underlying86 rfl zz12) rfl ?_
  exact ⟨by first | rfl | simp, (Sp.u zz53).below0⟩
def oid_State_Push.f (a0_0 : Int) (a0_1 : Bool) (a1 : Int) : Option (Int × Bool × Bool) := if a0_1 = true then (if (wrap64 (a0_0 - 1)) = 0 then (if a1 ≥ 128 then (some (0, false, false)) else (some (wrap64 (a0_0 - 1), false, true))) else (some (wrap64 (a0_0 - 1), decide (a1 ≥ 128), true))) else (if a1 = 128 then (some (0, false, false)) else (if (wrap64 (a0_0 - 1)) = 0 then (if a1 ≥ 128 then (some (0, false, false)) else (some (wrap64 (a0_0 - 1), false, true))) else (some (wrap64 (a0_0 - 1), decide (a1 ≥ 128), true))))
set_option maxHeartbeats 8000000 in
set_option maxRecDepth 100000 in
theorem oid_State_Push.calls (a0_0 : Int) (a0_1 : Bool) (a1 : Int) (r1 : Int) (r2 : Bool) (r3 : Bool) (w : World) (h : oid_State_Push.f a0_0 a0_1 a1 = some (r1, r2, r3)) :
 Calls Try.prog 102 #[.agg #[.int .i64 a0_0, .bool a0_1], .int .u8 a1] w fun e w' => e = .returned (.tuple #[.agg #[.int .i64 r1, .bool r2], .bool r3]) ∧ Below w.heap.size w w' := by
 have hS := Sp.nil (w := w) (S := None0)
 have hu := Try.underlying86
 obtain ⟨x, hx⟩ : ∃ x, wrap64 (a0_0 - 1) = x := ⟨_, rfl⟩
 have hx2 : IntKind.i64.wrap (a0_0 - 1) = x := by rw [← hx]; exact i64_w _
 unfold oid_State_Push.f at h
 rw [hx] at h
 cases a0_1 <;> cases c4 : (x == 0) <;> cases c5 : decide (128 ≤ a1) <;> cases c6 : (a1 == 128)
 all_goals
  have d4 := c4
  have d5 := c5
  have d6 := c6
  simp only [beq_iff_eq, beq_eq_false_iff_ne, decide_eq_true_eq, decide_eq_false_iff_not, ne_eq] at d4 d5 d6
  try (exfalso; omega)
 all_goals
  first | have e4 := eq_true (show x = 0 from d4) | have e4 := eq_false (show ¬ x = 0 from d4)
  simp only [e4, d5, d6, ge_iff_le, if_true, if_false, Bool.false_eq_true, decide_true, decide_false, Option.some.injEq, Prod.mk.injEq, reduceIte] at h
  obtain ⟨rfl, rfl, rfl⟩ := h
  clear hx d4 d5 d6 e4
  go_enter Try.func102, Try.ntmps102
  go_wp2_with (first
   | ((with_reducible refine gate_dst (N := 2) rfl ?_)
      refine sp_box hS rfl (N := 2) rfl _ 86 zz11 ?_
      intro g2 w1 hg2 hS)
   | ((with_reducible refine gate_dst (N := 4) rfl ?_)
      refine sp_box hS rfl (N := 4) rfl _ 86 zz11 ?_
      intro g4 w2 hg4 hS
      obtain ⟨j0, j1⟩ := hS.cells2 1)
   | ((with_reducible refine gate_store (t := 3) (p := 9) (v := .tmp 8) rfl ?_)
      refine sp_cell hS 1 rfl 3 (.tmp 9) (.tmp 8) rfl rfl g2 0 (.int .i64 x) rfl rfl 86 _ _ rfl zz12 zz30 rfl rfl rfl ?_
      clear j0 j1
      intro w3 hS
      obtain ⟨j0, j1⟩ := hS.cells2 1)
   | ((with_reducible refine gate_store (t := 4) (p := 29) (v := .tmp 28) rfl ?_)
      first
      | refine sp_cell hS 1 rfl 4 (.tmp 29) (.tmp 28) rfl rfl g2 1 (.bool true) rfl rfl 86 _ _ rfl zz12 zz30 rfl rfl rfl ?_
      | refine sp_cell hS 1 rfl 4 (.tmp 29) (.tmp 28) rfl rfl g2 1 (.bool false) rfl rfl 86 _ _ rfl zz12 zz30 rfl rfl rfl ?_
      clear j0 j1
      intro w4 hS
      obtain ⟨j0, j1⟩ := hS.cells2 1)
   | ((with_reducible refine gate_store (t := 86) (p := 4) (v := .tmp 26) rfl ?_)
      refine sp_row hS 0 rfl 86 (.tmp 4) (.tmp 26) rfl rfl g4 _ rfl rfl 86 _ rfl zz12 rfl zz31 rfl ?_
      intro w5 hS)
   | ((with_reducible refine gate_store (t := 86) (p := 4) (v := .tmp 30) rfl ?_)
      refine sp_row hS 0 rfl 86 (.tmp 4) (.tmp 30) rfl rfl g4 _ rfl rfl 86 _ rfl zz12 rfl zz31 rfl ?_
      intro w5 hS))
  refine bodyPost_ret (results_ct rfl _ _ g4 86 _ (0, 0) _ rfl (hS.blk 0) Try.underlying86 rfl zz12) rfl ?_
  exact ⟨zz30, (Sp.u zz53).below0⟩
def bitstr_Start.f (a0 : Int) : Option (Int × Bool × Int × Bool) := if a0 < 1 then (some (0, false, 0, false)) else (some (a0, false, 0, true))
set_option maxHeartbeats 8000000 in
set_option maxRecDepth 100000 in
theorem bitstr_Start.calls (a0 : Int) (r1 : Int) (r2 : Bool) (r3 : Int) (r4 : Bool) (w : World) (h : bitstr_Start.f a0 = some (r1, r2, r3, r4)) :
 Calls Try.prog 50 #[.int .i64 a0] w fun e w' => e = .returned (.tuple #[.agg #[.int .i64 r1, .bool r2, .int .u8 r3], .bool r4]) ∧ Below w.heap.size w w' := by
 have hS := Sp.nil (w := w) (S := None0)
 have hu := Try.underlying91
 unfold bitstr_Start.f at h
 cases c1 : decide (a0 < 1)
 all_goals
  have d1 := c1
  simp only [decide_eq_true_eq, decide_eq_false_iff_not] at d1
  simp only [d1, if_true, if_false, Option.some.injEq, Prod.mk.injEq, reduceIte] at h
  obtain ⟨rfl, rfl, rfl, rfl⟩ := h
  clear d1
  go_enter Try.func50, Try.ntmps50
  go_wp2_with (first
   | ((with_reducible refine gate_dst (N := 2) rfl ?_)
      refine sp_box hS rfl (N := 2) rfl _ 91 zz11 ?_
      intro g2 w2 hg2 hS)
   | ((with_reducible refine gate_store (t := 91) (p := 2) (v := .tmp 6) rfl ?_)
      refine sp_row hS 0 rfl 91 (.tmp 2) (.tmp 6) rfl rfl g2 _ rfl rfl 91 _ rfl zz12 rfl zz31 rfl ?_
      intro w6 hS)
   | ((with_reducible refine gate_store (t := 91) (p := 2) (v := .tmp 8) rfl ?_)
      refine sp_row hS 0 rfl 91 (.tmp 2) (.tmp 8) rfl rfl g2 _ rfl rfl 91 _ rfl zz12 rfl zz31 rfl ?_
      intro w8 hS))
  refine bodyPost_ret (results_ct rfl _ _ g2 91 _ (0, 0) _ rfl (hS.blk 0) Try.underlying91 rfl zz12) rfl ?_
  exact ⟨by first | rfl | simp, (Sp.u zz53).below0⟩
def bitstr_State_Push.f (a0_0 : Int) (a0_1 : Bool) (a0_2 : Int) (a1 : Int) : Option (Int × Bool × Int × Bool) := if a0_1 = true then (if (wrap64 (a0_0 - 1)) = 0 then (if 0 ≤ a0_2 then (if (Go.bits .and .u8 a1 (((shl .u8 1 a0_2) - 1) % 256)) = 0 then (some (wrap64 (a0_0 - 1), a0_1, a0_2, true)) else (some (0, false, 0, false))) else (none)) else (some (wrap64 (a0_0 - 1), a0_1, a0_2, true))) else (if a1 > 7 then (some (0, false, 0, false)) else (if a1 > 0 then (if (wrap64 (a0_0 - 1)) = 0 then (some (0, false, 0, false)) else (some (wrap64 (a0_0 - 1), true, a1, true))) else (some (wrap64 (a0_0 - 1), true, a1, true))))
set_option maxHeartbeats 8000000 in
set_option maxRecDepth 100000 in
theorem bitstr_State_Push.calls (a0_0 : Int) (a0_1 : Bool) (a0_2 : Int) (a1 : Int) (r1 : Int) (r2 : Bool) (r3 : Int) (r4 : Bool) (w : World) (h : bitstr_State_Push.f a0_0 a0_1 a0_2 a1 = some (r1, r2, r3, r4)) :
 Calls Try.prog 103 #[.agg #[.int .i64 a0_0, .bool a0_1, .int .u8 a0_2], .int .u8 a1] w fun e w' => e = .returned (.tuple #[.agg #[.int .i64 r1, .bool r2, .int .u8 r3], .bool r4]) ∧ Below w.heap.size w w' := by
 have hS := Sp.nil (w := w) (S := None0)
 have hu := Try.underlying91
 obtain ⟨x, hx⟩ : ∃ x, wrap64 (a0_0 - 1) = x := ⟨_, rfl⟩
 have hx2 : IntKind.i64.wrap (a0_0 - 1) = x := by rw [← hx]; exact i64_w _
 unfold bitstr_State_Push.f at h
 rw [hx] at h
 obtain ⟨z, hz⟩ : ∃ z, shl .u8 1 a0_2 = z := ⟨_, rfl⟩
 rw [hz] at h
 have hz_ : (IntKind.u8.wrap (1 * 2 ^ min a0_2.toNat 8)) = z := hz
 have hzz : a0_2 ≤ 8 → (IntKind.u8.wrap (1 * 2 ^ a0_2.toNat)) = z := shl_small hz
 have hzu : (IntKind.u8.wrap (2 ^ min a0_2.toNat 8)) = z := by have h_ := hz_; rw [Int.one_mul] at h_; exact h_
 have hzv : a0_2 ≤ 8 → (IntKind.u8.wrap (2 ^ a0_2.toNat)) = z := fun hle_ => by have h_ := hzz hle_; rw [Int.one_mul] at h_; exact h_
 obtain ⟨y, hy⟩ : ∃ y, Go.bits .and .u8 a1 ((z - 1) % 256) = y := ⟨_, rfl⟩
 rw [hy] at h
 cases a0_1
 ·
  cases c4 : (x == 0) <;> cases c5 : decide (7 < a1) <;> cases c6 : decide (0 < a1)
  all_goals
   have d4 := c4
   have d5 := c5
   have d6 := c6
   simp only [beq_iff_eq, beq_eq_false_iff_ne, decide_eq_true_eq, decide_eq_false_iff_not, ne_eq] at d4 d5 d6
   try (exfalso; omega)
  all_goals
   first | have e4 := eq_true (show x = 0 from d4) | have e4 := eq_false (show ¬ x = 0 from d4)
   simp only [e4, d5, d6, gt_iff_lt, if_true, if_false, Bool.false_eq_true, Option.some.injEq, Prod.mk.injEq, reduceIte] at h
   obtain ⟨rfl, rfl, rfl, rfl⟩ := h
   clear hx d4 d5 d6 e4 hz hz_ hzz hzu hzv hy
   go_enter Try.func103, Try.ntmps103
   go_wp2_with (first
    | ((with_reducible refine gate_dst (N := 2) rfl ?_)
       refine sp_box hS rfl (N := 2) rfl _ 91 zz11 ?_
       intro g2 w1 hg2 hS)
    | ((with_reducible refine gate_dst (N := 4) rfl ?_)
       refine sp_box hS rfl (N := 4) rfl _ 91 zz11 ?_
       intro g4 w2 hg4 hS
       obtain ⟨j0, j1, j2⟩ := hS.cells3 1)
    | ((with_reducible refine gate_store (t := 3) (p := 9) (v := .tmp 8) rfl ?_)
       refine sp_cell hS 1 rfl 3 (.tmp 9) (.tmp 8) rfl rfl g2 0 (.int .i64 x) rfl rfl 91 _ _ rfl zz12 zz30 rfl rfl rfl ?_
       clear j0 j1 j2
       intro w3 hS
       obtain ⟨j0, j1, j2⟩ := hS.cells3 1)
    | ((with_reducible refine gate_store (t := 4) (p := 27) (v := .const (.bool true)) rfl ?_)
       refine sp_cell hS 1 rfl 4 (.tmp 27) (.const (.bool true)) rfl rfl g2 1 (.bool true) rfl rfl 91 _ _ rfl zz12 zz30 rfl rfl rfl ?_
       clear j0 j1 j2
       intro w4 hS
       obtain ⟨j0, j1, j2⟩ := hS.cells3 1)
    | ((with_reducible refine gate_store (t := 5) (p := 28) (v := .tmp 26) rfl ?_)
       refine sp_cell hS 1 rfl 5 (.tmp 28) (.tmp 26) rfl rfl g2 2 (.int .u8 a1) rfl rfl 91 _ _ rfl zz12 zz30 rfl rfl rfl ?_
       clear j0 j1 j2
       intro w4 hS
       obtain ⟨j0, j1, j2⟩ := hS.cells3 1)
    | ((with_reducible refine gate_store (t := 91) (p := 4) (v := .tmp 25) rfl ?_)
       refine sp_row hS 0 rfl 91 (.tmp 4) (.tmp 25) rfl rfl g4 _ rfl rfl 91 _ rfl zz12 rfl zz31 rfl ?_
       intro w5 hS)
    | ((with_reducible refine gate_store (t := 91) (p := 4) (v := .tmp 42) rfl ?_)
       refine sp_row hS 0 rfl 91 (.tmp 4) (.tmp 42) rfl rfl g4 _ rfl rfl 91 _ rfl zz12 rfl zz31 rfl ?_
       intro w5 hS)
    | ((with_reducible refine gate_store (t := 91) (p := 4) (v := .tmp 43) rfl ?_)
       refine sp_row hS 0 rfl 91 (.tmp 4) (.tmp 43) rfl rfl g4 _ rfl rfl 91 _ rfl zz12 rfl zz31 rfl ?_
       intro w5 hS))
   refine bodyPost_ret (results_ct rfl _ _ g4 91 _ (0, 0) _ rfl (hS.blk 0) Try.underlying91 rfl zz12) rfl ?_
   exact ⟨zz30, (Sp.u zz53).below0⟩
 ·
  by_cases c7 : 0 ≤ a0_2
  ·
   cases c4 : (x == 0) <;> cases c5 : (y == 0)
   all_goals
    have d4 := c4
    have d5 := c5
    simp only [beq_iff_eq, beq_eq_false_iff_ne, ne_eq] at d4 d5
    first | have e4 := eq_true (show x = 0 from d4) | have e4 := eq_false (show ¬ x = 0 from d4)
    simp only [e4, d5, c7, if_true, if_false, Option.some.injEq, Prod.mk.injEq, reduceIte] at h
    obtain ⟨rfl, rfl, rfl, rfl⟩ := h
    have e7 := eq_true c7
    have e8 : decide (0 ≤ a0_2) = true := decide_eq_true c7
    clear hx d4 d5 e4 hz c7
    go_enter Try.func103, Try.ntmps103
    go_wp2_with (first
     | ((with_reducible refine gate_dst (N := 2) rfl ?_)
        refine sp_box hS rfl (N := 2) rfl _ 91 zz11 ?_
        intro g2 w1 hg2 hS)
     | ((with_reducible refine gate_dst (N := 4) rfl ?_)
        refine sp_box hS rfl (N := 4) rfl _ 91 zz11 ?_
        intro g4 w2 hg4 hS
        obtain ⟨j0, j1, j2⟩ := hS.cells3 1)
     | ((with_reducible refine gate_store (t := 3) (p := 9) (v := .tmp 8) rfl ?_)
        refine sp_cell hS 1 rfl 3 (.tmp 9) (.tmp 8) rfl rfl g2 0 (.int .i64 x) rfl rfl 91 _ _ rfl zz12 zz30 rfl rfl rfl ?_
        clear j0 j1 j2
        intro w3 hS
        obtain ⟨j0, j1, j2⟩ := hS.cells3 1)
     | ((with_reducible refine gate_store (t := 4) (p := 27) (v := .const (.bool true)) rfl ?_)
        refine sp_cell hS 1 rfl 4 (.tmp 27) (.const (.bool true)) rfl rfl g2 1 (.bool true) rfl rfl 91 _ _ rfl zz12 zz30 rfl rfl rfl ?_
        clear j0 j1 j2
        intro w4 hS
        obtain ⟨j0, j1, j2⟩ := hS.cells3 1)
     | ((with_reducible refine gate_store (t := 5) (p := 28) (v := .tmp 26) rfl ?_)
        refine sp_cell hS 1 rfl 5 (.tmp 28) (.tmp 26) rfl rfl g2 2 (.int .u8 a1) rfl rfl 91 _ _ rfl zz12 zz30 rfl rfl rfl ?_
        clear j0 j1 j2
        intro w4 hS
        obtain ⟨j0, j1, j2⟩ := hS.cells3 1)
     | ((with_reducible refine gate_store (t := 91) (p := 4) (v := .tmp 25) rfl ?_)
        refine sp_row hS 0 rfl 91 (.tmp 4) (.tmp 25) rfl rfl g4 _ rfl rfl 91 _ rfl zz12 rfl zz31 rfl ?_
        intro w5 hS)
     | ((with_reducible refine gate_store (t := 91) (p := 4) (v := .tmp 42) rfl ?_)
        refine sp_row hS 0 rfl 91 (.tmp 4) (.tmp 42) rfl rfl g4 _ rfl rfl 91 _ rfl zz12 rfl zz31 rfl ?_
        intro w5 hS)
     | ((with_reducible refine gate_store (t := 91) (p := 4) (v := .tmp 43) rfl ?_)
        refine sp_row hS 0 rfl 91 (.tmp 4) (.tmp 43) rfl rfl g4 _ rfl rfl 91 _ rfl zz12 rfl zz31 rfl ?_
        intro w5 hS))
    refine bodyPost_ret (results_ct rfl _ _ g4 91 _ (0, 0) _ rfl (hS.blk 0) Try.underlying91 rfl zz12) rfl ?_
    exact ⟨zz30, (Sp.u zz53).below0⟩
  ·
   cases c4 : (x == 0)
   ·
    have d4 := c4
    simp only [beq_eq_false_iff_ne, ne_eq] at d4
    have e4 := eq_false (show ¬ x = 0 from d4)
    simp only [e4, if_true, if_false, Option.some.injEq, Prod.mk.injEq, reduceIte] at h
    obtain ⟨rfl, rfl, rfl, rfl⟩ := h
    clear hx d4 e4 hz c7
    go_enter Try.func103, Try.ntmps103
    go_wp2_with (first
     | ((with_reducible refine gate_dst (N := 2) rfl ?_)
        refine sp_box hS rfl (N := 2) rfl _ 91 zz11 ?_
        intro g2 w1 hg2 hS)
     | ((with_reducible refine gate_dst (N := 4) rfl ?_)
        refine sp_box hS rfl (N := 4) rfl _ 91 zz11 ?_
        intro g4 w2 hg4 hS
        obtain ⟨j0, j1, j2⟩ := hS.cells3 1)
     | ((with_reducible refine gate_store (t := 3) (p := 9) (v := .tmp 8) rfl ?_)
        refine sp_cell hS 1 rfl 3 (.tmp 9) (.tmp 8) rfl rfl g2 0 (.int .i64 x) rfl rfl 91 _ _ rfl zz12 zz30 rfl rfl rfl ?_
        clear j0 j1 j2
        intro w3 hS
        obtain ⟨j0, j1, j2⟩ := hS.cells3 1)
     | ((with_reducible refine gate_store (t := 4) (p := 27) (v := .const (.bool true)) rfl ?_)
        refine sp_cell hS 1 rfl 4 (.tmp 27) (.const (.bool true)) rfl rfl g2 1 (.bool true) rfl rfl 91 _ _ rfl zz12 zz30 rfl rfl rfl ?_
        clear j0 j1 j2
        intro w4 hS
        obtain ⟨j0, j1, j2⟩ := hS.cells3 1)
     | ((with_reducible refine gate_store (t := 5) (p := 28) (v := .tmp 26) rfl ?_)
        refine sp_cell hS 1 rfl 5 (.tmp 28) (.tmp 26) rfl rfl g2 2 (.int .u8 a1) rfl rfl 91 _ _ rfl zz12 zz30 rfl rfl rfl ?_
        clear j0 j1 j2
        intro w4 hS
        obtain ⟨j0, j1, j2⟩ := hS.cells3 1)
     | ((with_reducible refine gate_store (t := 91) (p := 4) (v := .tmp 25) rfl ?_)
        refine sp_row hS 0 rfl 91 (.tmp 4) (.tmp 25) rfl rfl g4 _ rfl rfl 91 _ rfl zz12 rfl zz31 rfl ?_
        intro w5 hS)
     | ((with_reducible refine gate_store (t := 91) (p := 4) (v := .tmp 42) rfl ?_)
        refine sp_row hS 0 rfl 91 (.tmp 4) (.tmp 42) rfl rfl g4 _ rfl rfl 91 _ rfl zz12 rfl zz31 rfl ?_
        intro w5 hS)
     | ((with_reducible refine gate_store (t := 91) (p := 4) (v := .tmp 43) rfl ?_)
        refine sp_row hS 0 rfl 91 (.tmp 4) (.tmp 43) rfl rfl g4 _ rfl rfl 91 _ rfl zz12 rfl zz31 rfl ?_
        intro w5 hS))
    refine bodyPost_ret (results_ct rfl _ _ g4 91 _ (0, 0) _ rfl (hS.blk 0) Try.underlying91 rfl zz12) rfl ?_
    exact ⟨zz30, (Sp.u zz53).below0⟩
   ·
    have d4 : x = 0 := beq_iff_eq.1 c4
    rw [if_pos rfl, if_pos d4, if_neg c7] at h
    cases h
def when_Start.f (a0 : Int) (a1 : Int) : Option (ByteArray × Int × Bool × Bool) := if a0 = 23 then (if a1 = 13 then (if a0 = 24 then (if a1 = 15 then (some ((⟨#[]⟩ : ByteArray), a1, true, true)) else (some ((⟨#[]⟩ : ByteArray), 0, false, false))) else (some ((⟨#[]⟩ : ByteArray), a1, true, true))) else (some ((⟨#[]⟩ : ByteArray), 0, false, false))) else (if a0 = 24 then (if a1 = 15 then (some ((⟨#[]⟩ : ByteArray), a1, false, true)) else (some ((⟨#[]⟩ : ByteArray), 0, false, false))) else (some ((⟨#[]⟩ : ByteArray), 0, false, false)))
set_option maxHeartbeats 8000000 in
set_option maxRecDepth 100000 in
theorem when_Start.calls (a0 : Int) (a1 : Int) (r1 : ByteArray) (r2 : Int) (r3 : Bool) (r4 : Bool) (w : World) (h : when_Start.f a0 a1 = some (r1, r2, r3, r4)) :
 Calls Try.prog 52 #[.int .i64 a0, .int .i64 a1] w fun e w' => e = .returned (.tuple #[.agg #[.string r1, .int .i64 r2, .bool r3], .bool r4]) ∧ Below w.heap.size w w' := by
 have hS := Sp.nil (w := w) (S := None0)
 have hu := Try.underlying96
 have eb : ∀ a b : Int, (a = b) = ((a == b) = true) := fun a b => by simp
 unfold when_Start.f at h
 cases c1 : (a0 == 23) <;> cases c2 : (a0 == 24) <;> cases c3 : (a1 == 13) <;> cases c4 : (a1 == 15)
 all_goals
  try (exfalso; simp only [beq_iff_eq, beq_eq_false_iff_ne, ne_eq, decide_eq_true_eq, decide_eq_false_iff_not] at *; omega)
 all_goals
  simp only [eb a0 23, eb a0 24, eb a1 13, eb a1 15, c1, c2, c3, c4, if_true, if_false, Bool.false_eq_true, Option.some.injEq, Prod.mk.injEq, reduceIte] at h
  obtain ⟨rfl, rfl, rfl, rfl⟩ := h
  have n1 : (a0 != 23) = !(a0 == 23) := rfl
  have n2 : (a0 != 24) = !(a0 == 24) := rfl
  have n3 : (a1 != 13) = !(a1 == 13) := rfl
  have n4 : (a1 != 15) = !(a1 == 15) := rfl
  rw [c1] at n1
  rw [c2] at n2
  rw [c3] at n3
  rw [c4] at n4
  simp only [Bool.not_true, Bool.not_false] at n1 n2 n3 n4
  clear eb
  go_enter Try.func52, Try.ntmps52
  go_wp2_with (first
   | ((with_reducible refine gate_dst (N := 4) rfl ?_)
      refine sp_box hS rfl (N := 4) rfl _ 96 zz11 ?_
      intro g4 w4 hg4 hS)
   | ((with_reducible refine gate_store (t := 96) (p := 4) (v := .tmp 28) rfl ?_)
      refine sp_row hS 0 rfl 96 (.tmp 4) (.tmp 28) rfl rfl g4 _ rfl rfl 96 _ rfl zz12 rfl zz31 rfl ?_
      intro w28 hS)
   | ((with_reducible refine gate_store (t := 96) (p := 4) (v := .tmp 32) rfl ?_)
      refine sp_row hS 0 rfl 96 (.tmp 4) (.tmp 32) rfl rfl g4 _ rfl rfl 96 _ rfl zz12 rfl zz31 rfl ?_
      intro w32 hS))
  refine bodyPost_ret (results_ct rfl _ _ g4 96 _ (0, 0) _ rfl (hS.blk 0) Try.underlying96 rfl zz12) rfl ?_
  exact ⟨by first | rfl | simp, (Sp.u zz53).below0⟩
end Go.Proofs.Ytpfconocipmcjaa.PC
namespace Go.Proofs.Ytpfconocipmcjaa.PC
open RowKit YtpfconocipmcjaaW.PrintWords YtpfconocipmcjaaW.PrintLast YtpfconocipmcjaaW.PrintMore
attribute [local go_sem] max2_int min2_int max_two min_two max_three min_three max_four min_four
set_option linter.unusedVariables false
set_option linter.unusedSimpArgs false
def when_number.l0 : Nat → ByteArray → Int → Int → Int → Option (Int)
 | 0, _, _, _, _ => none
 | k + 1, x0, x3, x6, x7 => if x7 < x6 then (if 0 ≤ x7 then (if x7 < (x0.size : Int) then (when_number.l0 k x0 (wrap64 ((wrap64 (10 * x3)) + (((bt x0 x7) - 48) % 256))) x6 (wrap64 (x7 + 1))) else (none)) else (none)) else (some x3)
def when_number.f (k : Nat) (a0 : ByteArray) : Option (Int) := when_number.l0 k a0 0 (a0.size : Int) 0
set_option maxHeartbeats 8000000 in
set_option maxRecDepth 100000 in
theorem when_number.calls (k : Nat) (a0 : ByteArray) (r : Int) (w : World) (h : when_number.f k a0 = some r) :
 Calls Try.prog 108 #[.string a0] w fun e w' => e = .returned (.int .i64 r) ∧ Drawn0 w w' := by
 have H : (when_number.l0 k a0 0 (a0.size : Int) 0) = some r := h
 clear h
 have H' := Aside0.mk H
 clear H
 go_enter Try.func108, Try.ntmps108
 go_wp2
 go_loopg [3, 7] k (fun kq v3 v7 w' => ∃ (x3_1 : Int) (x7_1 : Int), v3 = .int .i64 x3_1 ∧ v7 = .int .i64 x7_1 ∧ Aside0 (when_number.l0 kq a0 x3_1 (a0.size : Int) x7_1 = some r) ∧ Aside0 (kq ≤ k) ∧ Drawn0 w w')
 case atStart => exact ⟨(0), (0), zz0, zz0, H', ⟨Nat.le_refl _⟩, zz1⟩
 case round =>
  clear H'
  try clear c1
  obtain ⟨x3_1, x7_1, rfl, rfl, HA, HK1, ⟨m1, rfl⟩⟩ := hrel
  cases gk with
  | zero => exact absurd HA.out (by simp [when_number.l0])
  | succ k1 =>
    have H := HA.out
    clear HA
    simp only [when_number.l0] at H
    by_cases c2 : x7_1 < (a0.size : Int)
    ·
     rw [if_pos c2] at H
     have c2b0 : decide (x7_1 < (a0.size : Int)) = true := decide_eq_true c2
     clear c2
     by_cases c3 : 0 ≤ x7_1
     ·
      rw [if_pos c3] at H
      have c3b0 : decide (0 ≤ x7_1) = true := decide_eq_true c3
      clear c3
      by_cases c4 : x7_1 < (a0.size : Int)
      ·
       rw [if_pos c4] at H
       have c4b0 : decide (x7_1 < (a0.size : Int)) = true := decide_eq_true c4
       clear c4
       have H' := Aside0.mk H
       clear H
       have p5 : 0 ≤ (x7_1 : Int) := of_decide_eq_true zz3
       have q5 : x7_1 < (a0.size : Int) := of_decide_eq_true zz3
       have hx5 := bt_at a0 x7_1
       replace p5 := eq_true p5
       replace q5 := eq_true q5
       go_wp2
       go_roundg k1
       case measure => have := HK1.out; omega
       case rel => exact ⟨(wrap64 ((wrap64 (10 * x3_1)) + (((bt a0 x7_1) - 48) % 256))), (wrap64 (x7_1 + 1)), zz0, zz0, H', ⟨zz57⟩, zz1⟩
      ·
       rw [if_neg c4] at H
       exact absurd H zz30
     ·
      rw [if_neg c3] at H
      exact absurd H zz30
    ·
     rw [if_neg c2] at H
     have c2b0 : decide (x7_1 < (a0.size : Int)) = false := decide_eq_false c2
     clear c2
     obtain rfl := Option.some.inj H
     go_wp2
     go_ret
     exact ⟨zz0, zz1⟩
def when_Days.f (a0 : Int) (a1 : Int) : Option (Int) := some (Days.days a0 a1)
theorem when_Days.calls (a0 : Int) (a1 : Int) (r : Int) (w : World) (h : when_Days.f a0 a1 = some r) :
 Calls Try.prog 109 #[.int .i64 a0, .int .i64 a1] w fun e w' => e = .returned (.int .i64 r) ∧ Drawn0 w w' := by
 unfold when_Days.f at h
 obtain rfl := Option.some.inj h
 exact (Days.days_any a0 a1 w).mono fun e w' ⟨he, hw⟩ => ⟨he, hw ▸ Drawn0.refl w⟩
def when_span.f (k : Nat) (a0 : ByteArray) (a1 : Int) : Option (Int × Int) := if a1 = 4 then (some (1, 12)) else (if a1 = 6 then (if 0 ≤ 4 then (if 4 ≤ (a0.size : Int) then ((when_number.f k (a0.extract 0 4)).bind fun t186 => (if 4 ≤ 6 then (if 6 ≤ (a0.size : Int) then ((when_number.f k (a0.extract 4 6)).bind fun t187 => ((when_Days.f t186 t187).bind fun t188 => (some (1, t188)))) else (none)) else (none))) else (none)) else (none)) else (if a1 = 8 then (some (0, 23)) else (some (0, 59))))
set_option maxHeartbeats 8000000 in
set_option maxRecDepth 100000 in
theorem when_span.calls (k : Nat) (a0 : ByteArray) (a1 : Int) (r1 : Int) (r2 : Int) (w : World) (h : when_span.f k a0 a1 = some (r1, r2)) :
 Calls Try.prog 107 #[.string a0, .int .i64 a1] w fun e w' => e = .returned (.tuple #[.int .i64 r1, .int .i64 r2]) ∧ Drawn0 w w' := by
 have H : (if a1 = 4 then (some (1, 12)) else (if a1 = 6 then (if 0 ≤ 4 then (if 4 ≤ (a0.size : Int) then ((when_number.f k (a0.extract 0 4)).bind fun t186 => (if 4 ≤ 6 then (if 6 ≤ (a0.size : Int) then ((when_number.f k (a0.extract 4 6)).bind fun t187 => ((when_Days.f t186 t187).bind fun t188 => (some (1, t188)))) else (none)) else (none))) else (none)) else (none)) else (if a1 = 8 then (some (0, 23)) else (some (0, 59))))) = some (r1, r2) := h
 clear h
 by_cases c3 : a1 = 4
 ·
  rw [if_pos c3] at H
  have c3b0 : (a1 == 4) = true := beq_iff_eq.mpr c3
  have c3b1 : (a1 != 4) = false := bne_eq_false_iff_eq.mpr c3
  clear c3
  simp only [Option.some.injEq, Prod.mk.injEq] at H
  obtain ⟨rfl, rfl⟩ := H
  go_enter Try.func107, Try.ntmps107
  go_wp2
  repeat (go_quiet (fail); try go_wp2)
  go_ret2
  exact ⟨zz0, zz1⟩
 ·
  rw [if_neg c3] at H
  have c3b0 : (a1 == 4) = false := beq_eq_false_iff_ne.mpr c3
  have c3b1 : (a1 != 4) = true := bne_iff_ne.mpr c3
  by_cases c4 : a1 = 6
  ·
   rw [if_pos c4] at H
   have c4b0 : (a1 == 6) = true := beq_iff_eq.mpr c4
   have c4b1 : (a1 != 6) = false := bne_eq_false_iff_eq.mpr c4
   clear c4
   by_cases c5 : 0 ≤ 4
   ·
    rw [if_pos c5] at H
    have c5b0 := eq_true c5
    have c5b1 : decide (0 ≤ 4) = true := decide_eq_true c5
    clear c5
    by_cases c6 : 4 ≤ (a0.size : Int)
    ·
     rw [if_pos c6] at H
     have c6b0 := eq_true c6
     have c6b1 : decide (4 ≤ (a0.size : Int)) = true := decide_eq_true c6
     clear c6
     replace H := Option.bind_eq_some_iff.mp H
     obtain ⟨t186, A70, H⟩ := H
     replace H : (if 4 ≤ 6 then (if 6 ≤ (a0.size : Int) then ((when_number.f k (a0.extract 4 6)).bind fun t187 => ((when_Days.f t186 t187).bind fun t188 => (some (1, t188)))) else (none)) else (none)) = some (r1, r2) := H
     have A7 := Aside0.mk A70
     clear A70
     by_cases c8 : 4 ≤ 6
     ·
      rw [if_pos c8] at H
      have c8b0 := eq_true c8
      have c8b1 : decide (4 ≤ 6) = true := decide_eq_true c8
      clear c8
      by_cases c9 : 6 ≤ (a0.size : Int)
      ·
       rw [if_pos c9] at H
       have c9b0 := eq_true c9
       have c9b1 : decide (6 ≤ (a0.size : Int)) = true := decide_eq_true c9
       clear c9
       replace H := Option.bind_eq_some_iff.mp H
       obtain ⟨t187, A100, H⟩ := H
       replace H : ((when_Days.f t186 t187).bind fun t188 => (some (1, t188))) = some (r1, r2) := H
       have A10 := Aside0.mk A100
       clear A100
       replace H := Option.bind_eq_some_iff.mp H
       obtain ⟨t188, A110, H⟩ := H
       replace H : (some (1, t188)) = some (r1, r2) := H
       have A11 := Aside0.mk A110
       clear A110
       simp only [Option.some.injEq, Prod.mk.injEq] at H
       obtain ⟨rfl, rfl⟩ := H
       go_enter Try.func107, Try.ntmps107
       go_wp2_with (first | (go_at_call 108; (with_reducible refine (when_number.calls k (a0.extract 0 4) t186 _ A7.out).mono ?_); rintro e w' ⟨rfl, ⟨nd, rfl⟩⟩; (try first | exact ⟨rfl, _, World.drewN_drewN _ _ _⟩ | exact ⟨rfl, _, Eq.trans (World.drewN_drewN _ _ _) (congrArg (World.drewN _) (Nat.add_assoc _ _ _))⟩)) | (go_at_call 108; (with_reducible refine (when_number.calls k (a0.extract 4 6) t187 _ A10.out).mono ?_); rintro e w' ⟨rfl, ⟨nd, rfl⟩⟩; (try first | exact ⟨rfl, _, World.drewN_drewN _ _ _⟩ | exact ⟨rfl, _, Eq.trans (World.drewN_drewN _ _ _) (congrArg (World.drewN _) (Nat.add_assoc _ _ _))⟩)) | (go_at_call 109; (with_reducible refine (when_Days.calls t186 t187 t188 _ A11.out).mono ?_); rintro e w' ⟨rfl, ⟨nd, rfl⟩⟩; (try first | exact ⟨rfl, _, World.drewN_drewN _ _ _⟩ | exact ⟨rfl, _, Eq.trans (World.drewN_drewN _ _ _) (congrArg (World.drewN _) (Nat.add_assoc _ _ _))⟩)))
       repeat (go_quiet (first | (go_at_call 108; (with_reducible refine (when_number.calls k (a0.extract 0 4) t186 _ A7.out).mono ?_); rintro e w' ⟨rfl, ⟨nd, rfl⟩⟩; (try first | exact ⟨rfl, _, World.drewN_drewN _ _ _⟩ | exact ⟨rfl, _, Eq.trans (World.drewN_drewN _ _ _) (congrArg (World.drewN _) (Nat.add_assoc _ _ _))⟩)) | (go_at_call 108; (with_reducible refine (when_number.calls k (a0.extract 4 6) t187 _ A10.out).mono ?_); rintro e w' ⟨rfl, ⟨nd, rfl⟩⟩; (try first | exact ⟨rfl, _, World.drewN_drewN _ _ _⟩ | exact ⟨rfl, _, Eq.trans (World.drewN_drewN _ _ _) (congrArg (World.drewN _) (Nat.add_assoc _ _ _))⟩)) | (go_at_call 109; (with_reducible refine (when_Days.calls t186 t187 t188 _ A11.out).mono ?_); rintro e w' ⟨rfl, ⟨nd, rfl⟩⟩; (try first | exact ⟨rfl, _, World.drewN_drewN _ _ _⟩ | exact ⟨rfl, _, Eq.trans (World.drewN_drewN _ _ _) (congrArg (World.drewN _) (Nat.add_assoc _ _ _))⟩))); try go_wp2_with (first | (go_at_call 108; (with_reducible refine (when_number.calls k (a0.extract 0 4) t186 _ A7.out).mono ?_); rintro e w' ⟨rfl, ⟨nd, rfl⟩⟩; (try first | exact ⟨rfl, _, World.drewN_drewN _ _ _⟩ | exact ⟨rfl, _, Eq.trans (World.drewN_drewN _ _ _) (congrArg (World.drewN _) (Nat.add_assoc _ _ _))⟩)) | (go_at_call 108; (with_reducible refine (when_number.calls k (a0.extract 4 6) t187 _ A10.out).mono ?_); rintro e w' ⟨rfl, ⟨nd, rfl⟩⟩; (try first | exact ⟨rfl, _, World.drewN_drewN _ _ _⟩ | exact ⟨rfl, _, Eq.trans (World.drewN_drewN _ _ _) (congrArg (World.drewN _) (Nat.add_assoc _ _ _))⟩)) | (go_at_call 109; (with_reducible refine (when_Days.calls t186 t187 t188 _ A11.out).mono ?_); rintro e w' ⟨rfl, ⟨nd, rfl⟩⟩; (try first | exact ⟨rfl, _, World.drewN_drewN _ _ _⟩ | exact ⟨rfl, _, Eq.trans (World.drewN_drewN _ _ _) (congrArg (World.drewN _) (Nat.add_assoc _ _ _))⟩))))
       go_ret2
       exact ⟨zz0, zz1⟩
      ·
       rw [if_neg c9] at H
       exact absurd H zz30
     ·
      rw [if_neg c8] at H
      exact absurd H zz30
    ·
     rw [if_neg c6] at H
     exact absurd H zz30
   ·
    rw [if_neg c5] at H
    exact absurd H zz30
  ·
   rw [if_neg c4] at H
   have c4b0 : (a1 == 6) = false := beq_eq_false_iff_ne.mpr c4
   have c4b1 : (a1 != 6) = true := bne_iff_ne.mpr c4
   by_cases c12 : a1 = 8
   ·
    rw [if_pos c12] at H
    have c12b0 : (a1 == 8) = true := beq_iff_eq.mpr c12
    have c12b1 : (a1 != 8) = false := bne_eq_false_iff_eq.mpr c12
    clear c12
    simp only [Option.some.injEq, Prod.mk.injEq] at H
    obtain ⟨rfl, rfl⟩ := H
    go_enter Try.func107, Try.ntmps107
    go_wp2
    repeat (go_quiet (fail); try go_wp2)
    go_ret2
    exact ⟨zz0, zz1⟩
   ·
    rw [if_neg c12] at H
    have c12b0 : (a1 == 8) = false := beq_eq_false_iff_ne.mpr c12
    have c12b1 : (a1 != 8) = true := bne_iff_ne.mpr c12
    simp only [Option.some.injEq, Prod.mk.injEq] at H
    obtain ⟨rfl, rfl⟩ := H
    go_enter Try.func107, Try.ntmps107
    go_wp2
    repeat (go_quiet (fail); try go_wp2)
    go_ret2
    exact ⟨zz0, zz1⟩
def when_may.f (k : Nat) (a0 : ByteArray) : Option (Bool) := if (a0.size : Int) ≤ 4 then (some true) else ((when_span.f k a0 (Go.bits .andNot .i64 (wrap64 ((a0.size : Int) - 1)) 1)).bind fun bt189 => (if ((a0.size : Int) % 2) = 1 then (if 0 ≤ (Go.bits .andNot .i64 (wrap64 ((a0.size : Int) - 1)) 1) then (if (Go.bits .andNot .i64 (wrap64 ((a0.size : Int) - 1)) 1) ≤ (a0.size : Int) then ((when_number.f k (a0.extract ((Go.bits .andNot .i64 (wrap64 ((a0.size : Int) - 1)) 1) : Int).toNat a0.size)).bind fun t191 => (if t191 ≥ (wrap64 (Int.tdiv bt189.1 10)) then ((when_number.f k (a0.extract ((Go.bits .andNot .i64 (wrap64 ((a0.size : Int) - 1)) 1) : Int).toNat a0.size)).bind fun t192 => (some (decide (t192 ≤ (wrap64 (Int.tdiv bt189.2 10)))))) else (some false))) else (none)) else (none)) else (if 0 ≤ (Go.bits .andNot .i64 (wrap64 ((a0.size : Int) - 1)) 1) then (if (Go.bits .andNot .i64 (wrap64 ((a0.size : Int) - 1)) 1) ≤ (a0.size : Int) then ((when_number.f k (a0.extract ((Go.bits .andNot .i64 (wrap64 ((a0.size : Int) - 1)) 1) : Int).toNat a0.size)).bind fun t193 => (if t193 ≥ bt189.1 then ((when_number.f k (a0.extract ((Go.bits .andNot .i64 (wrap64 ((a0.size : Int) - 1)) 1) : Int).toNat a0.size)).bind fun t194 => (some (decide (t194 ≤ bt189.2)))) else (some false))) else (none)) else (none))))
set_option maxHeartbeats 8000000 in
set_option maxRecDepth 100000 in
theorem when_may.calls (k : Nat) (a0 : ByteArray) (r : Bool) (w : World) (h : when_may.f k a0 = some r) :
 Calls Try.prog 105 #[.string a0] w fun e w' => e = .returned (.bool r) ∧ Drawn0 w w' := by
 have H : (if (a0.size : Int) ≤ 4 then (some true) else ((when_span.f k a0 (Go.bits .andNot .i64 (wrap64 ((a0.size : Int) - 1)) 1)).bind fun bt189 => (if ((a0.size : Int) % 2) = 1 then (if 0 ≤ (Go.bits .andNot .i64 (wrap64 ((a0.size : Int) - 1)) 1) then (if (Go.bits .andNot .i64 (wrap64 ((a0.size : Int) - 1)) 1) ≤ (a0.size : Int) then ((when_number.f k (a0.extract ((Go.bits .andNot .i64 (wrap64 ((a0.size : Int) - 1)) 1) : Int).toNat a0.size)).bind fun t191 => (if t191 ≥ (wrap64 (Int.tdiv bt189.1 10)) then ((when_number.f k (a0.extract ((Go.bits .andNot .i64 (wrap64 ((a0.size : Int) - 1)) 1) : Int).toNat a0.size)).bind fun t192 => (some (decide (t192 ≤ (wrap64 (Int.tdiv bt189.2 10)))))) else (some false))) else (none)) else (none)) else (if 0 ≤ (Go.bits .andNot .i64 (wrap64 ((a0.size : Int) - 1)) 1) then (if (Go.bits .andNot .i64 (wrap64 ((a0.size : Int) - 1)) 1) ≤ (a0.size : Int) then ((when_number.f k (a0.extract ((Go.bits .andNot .i64 (wrap64 ((a0.size : Int) - 1)) 1) : Int).toNat a0.size)).bind fun t193 => (if t193 ≥ bt189.1 then ((when_number.f k (a0.extract ((Go.bits .andNot .i64 (wrap64 ((a0.size : Int) - 1)) 1) : Int).toNat a0.size)).bind fun t194 => (some (decide (t194 ≤ bt189.2)))) else (some false))) else (none)) else (none))))) = some r := h
 clear h
 by_cases c2 : (a0.size : Int) ≤ 4
 ·
  rw [if_pos c2] at H
  have c2b0 : decide ((a0.size : Int) ≤ 4) = true := decide_eq_true c2
  have c2b1 : decide (a0.size ≤ 4) = true := decide_eq_true zz4
  clear c2
  obtain rfl := Option.some.inj H
  go_enter Try.func105, Try.ntmps105
  go_wp2
  go_ret
  exact ⟨zz0, zz1⟩
 ·
  rw [if_neg c2] at H
  have c2b0 : decide ((a0.size : Int) ≤ 4) = false := decide_eq_false c2
  have c2b1 : decide (a0.size ≤ 4) = false := decide_eq_false zz4
  clear c2
  replace H := Option.bind_eq_some_iff.mp H
  obtain ⟨⟨t189, t190⟩, A30, H⟩ := H
  replace H : (if ((a0.size : Int) % 2) = 1 then (if 0 ≤ (Go.bits .andNot .i64 (wrap64 ((a0.size : Int) - 1)) 1) then (if (Go.bits .andNot .i64 (wrap64 ((a0.size : Int) - 1)) 1) ≤ (a0.size : Int) then ((when_number.f k (a0.extract ((Go.bits .andNot .i64 (wrap64 ((a0.size : Int) - 1)) 1) : Int).toNat a0.size)).bind fun t191 => (if t191 ≥ (wrap64 (Int.tdiv t189 10)) then ((when_number.f k (a0.extract ((Go.bits .andNot .i64 (wrap64 ((a0.size : Int) - 1)) 1) : Int).toNat a0.size)).bind fun t192 => (some (decide (t192 ≤ (wrap64 (Int.tdiv t190 10)))))) else (some false))) else (none)) else (none)) else (if 0 ≤ (Go.bits .andNot .i64 (wrap64 ((a0.size : Int) - 1)) 1) then (if (Go.bits .andNot .i64 (wrap64 ((a0.size : Int) - 1)) 1) ≤ (a0.size : Int) then ((when_number.f k (a0.extract ((Go.bits .andNot .i64 (wrap64 ((a0.size : Int) - 1)) 1) : Int).toNat a0.size)).bind fun t193 => (if t193 ≥ t189 then ((when_number.f k (a0.extract ((Go.bits .andNot .i64 (wrap64 ((a0.size : Int) - 1)) 1) : Int).toNat a0.size)).bind fun t194 => (some (decide (t194 ≤ t190)))) else (some false))) else (none)) else (none))) = some r := H
  have A3 := Aside0.mk A30
  clear A30
  by_cases c4 : ((a0.size : Int) % 2) = 1
  ·
   rw [if_pos c4] at H
   have c4b0 : (((a0.size : Int) % 2) == 1) = true := beq_iff_eq.mpr c4
   have c4b1 : (((a0.size : Int) % 2) != 1) = false := bne_eq_false_iff_eq.mpr c4
   clear c4
   obtain ⟨ji5, hji5⟩ : ∃ j_ : Int, (Go.bits .andNot .i64 (wrap64 ((a0.size : Int) - 1)) 1) = j_ := ⟨_, rfl⟩
   replace H : (if 0 ≤ (ji5) then (if (ji5) ≤ (a0.size : Int) then ((when_number.f k (a0.extract ((ji5) : Int).toNat a0.size)).bind fun t191 => (if t191 ≥ (wrap64 (Int.tdiv t189 10)) then ((when_number.f k (a0.extract ((ji5) : Int).toNat a0.size)).bind fun t192 => (some (decide (t192 ≤ (wrap64 (Int.tdiv t190 10)))))) else (some false))) else (none)) else (none)) = some r := by first | (rw [hji5] at H; exact H) | (simp only [hji5] at H ⊢; exact H)
   (try rw [hji5] at A3)
   by_cases c6 : 0 ≤ (ji5)
   ·
    rw [if_pos c6] at H
    have c6b0 := eq_true c6
    have c6b1 : decide (0 ≤ (ji5)) = true := decide_eq_true c6
    clear c6
    by_cases c7 : (ji5) ≤ (a0.size : Int)
    ·
     rw [if_pos c7] at H
     have c7b0 := eq_true c7
     have c7b1 : decide ((ji5) ≤ (a0.size : Int)) = true := decide_eq_true c7
     clear c7
     obtain ⟨xt5, hxt5⟩ : ∃ x_ : ByteArray, (a0.extract ((ji5) : Int).toNat a0.size) = x_ := ⟨_, rfl⟩
     rw [hxt5] at H
     replace H := Option.bind_eq_some_iff.mp H
     obtain ⟨t191, A80, H⟩ := H
     replace H : (if t191 ≥ (wrap64 (Int.tdiv t189 10)) then ((when_number.f k xt5).bind fun t192 => (some (decide (t192 ≤ (wrap64 (Int.tdiv t190 10)))))) else (some false)) = some r := H
     have A8 := Aside0.mk A80
     clear A80
     by_cases c9 : t191 ≥ (wrap64 (Int.tdiv t189 10))
     ·
      rw [if_pos c9] at H
      have c9b0 : decide ((wrap64 (Int.tdiv t189 10)) ≤ t191) = true := decide_eq_true c9
      clear c9
      have c10b0 := eq_true (of_decide_eq_true zz3 : 0 ≤ (ji5))
      have c11b0 := eq_true (of_decide_eq_true zz3 : (ji5) ≤ (a0.size : Int))
      replace H := Option.bind_eq_some_iff.mp H
      obtain ⟨t192, A120, H⟩ := H
      replace H : (some (decide (t192 ≤ (wrap64 (Int.tdiv t190 10))))) = some r := H
      have A12 := Aside0.mk A120
      clear A120
      have hsm_ := A8.out.symm.trans A12.out
      simp only [Option.some.injEq, Prod.mk.injEq] at hsm_
      obtain rfl := hsm_
      obtain rfl := Option.some.inj H
      go_enter Try.func105, Try.ntmps105
      go_wp2_with (first | ((with_reducible refine gate_callee (f := 107) rfl ?_); refine goesL_ (some 17) rfl rfl Try.func107 zz12 rfl #[.string a0, .int .i64 ji5] rfl zz41 ?_; (with_reducible refine (when_span.calls k a0 ji5 t189 t190 _ A3.out).mono ?_); rintro e w' ⟨rfl, ⟨nd, rfl⟩⟩; refine ⟨_, rfl, ?_⟩) | ((with_reducible refine gate_callee (f := 108) rfl ?_); refine goesL_ (some 26) rfl rfl Try.func108 zz12 rfl #[.string xt5] rfl zz41 ?_; (with_reducible refine (when_number.calls k xt5 t191 _ A8.out).mono ?_); rintro e w' ⟨rfl, ⟨nd, rfl⟩⟩; refine ⟨_, rfl, ?_⟩) | (go_at_call 108; (with_reducible refine (when_number.calls k xt5 t191 _ A12.out).mono ?_); rintro e w' ⟨rfl, ⟨nd, rfl⟩⟩))
      go_ret
      exact ⟨by first | rfl | (simp; done) | (simp only [← hji5] <;> (first | rfl | simp)) | (simp [*]; done), zz1⟩
     ·
      rw [if_neg c9] at H
      have c9b0 : decide ((wrap64 (Int.tdiv t189 10)) ≤ t191) = false := decide_eq_false c9
      clear c9
      obtain rfl := Option.some.inj H
      go_enter Try.func105, Try.ntmps105
      go_wp2_with (first | ((with_reducible refine gate_callee (f := 107) rfl ?_); refine goesL_ (some 17) rfl rfl Try.func107 zz12 rfl #[.string a0, .int .i64 ji5] rfl zz41 ?_; (with_reducible refine (when_span.calls k a0 ji5 t189 t190 _ A3.out).mono ?_); rintro e w' ⟨rfl, ⟨nd, rfl⟩⟩; refine ⟨_, rfl, ?_⟩) | ((with_reducible refine gate_callee (f := 108) rfl ?_); refine goesL_ (some 26) rfl rfl Try.func108 zz12 rfl #[.string xt5] rfl zz41 ?_; (with_reducible refine (when_number.calls k xt5 t191 _ A8.out).mono ?_); rintro e w' ⟨rfl, ⟨nd, rfl⟩⟩; refine ⟨_, rfl, ?_⟩))
      go_ret
      exact ⟨by first | rfl | (simp; done) | (simp only [← hji5] <;> (first | rfl | simp)) | (simp [*]; done), zz1⟩
    ·
     rw [if_neg c7] at H
     exact absurd H zz30
   ·
    rw [if_neg c6] at H
    exact absurd H zz30
  ·
   rw [if_neg c4] at H
   have c4b0 : (((a0.size : Int) % 2) == 1) = false := beq_eq_false_iff_ne.mpr c4
   have c4b1 : (((a0.size : Int) % 2) != 1) = true := bne_iff_ne.mpr c4
   obtain ⟨ji13, hji13⟩ : ∃ j_ : Int, (Go.bits .andNot .i64 (wrap64 ((a0.size : Int) - 1)) 1) = j_ := ⟨_, rfl⟩
   replace H : (if 0 ≤ (ji13) then (if (ji13) ≤ (a0.size : Int) then ((when_number.f k (a0.extract ((ji13) : Int).toNat a0.size)).bind fun t193 => (if t193 ≥ t189 then ((when_number.f k (a0.extract ((ji13) : Int).toNat a0.size)).bind fun t194 => (some (decide (t194 ≤ t190)))) else (some false))) else (none)) else (none)) = some r := by first | (rw [hji13] at H; exact H) | (simp only [hji13] at H ⊢; exact H)
   (try rw [hji13] at A3)
   by_cases c14 : 0 ≤ (ji13)
   ·
    rw [if_pos c14] at H
    have c14b0 := eq_true c14
    have c14b1 : decide (0 ≤ (ji13)) = true := decide_eq_true c14
    clear c14
    by_cases c15 : (ji13) ≤ (a0.size : Int)
    ·
     rw [if_pos c15] at H
     have c15b0 := eq_true c15
     have c15b1 : decide ((ji13) ≤ (a0.size : Int)) = true := decide_eq_true c15
     clear c15
     obtain ⟨xt13, hxt13⟩ : ∃ x_ : ByteArray, (a0.extract ((ji13) : Int).toNat a0.size) = x_ := ⟨_, rfl⟩
     rw [hxt13] at H
     replace H := Option.bind_eq_some_iff.mp H
     obtain ⟨t193, A160, H⟩ := H
     replace H : (if t193 ≥ t189 then ((when_number.f k xt13).bind fun t194 => (some (decide (t194 ≤ t190)))) else (some false)) = some r := H
     have A16 := Aside0.mk A160
     clear A160
     by_cases c17 : t193 ≥ t189
     ·
      rw [if_pos c17] at H
      have c17b0 : decide (t189 ≤ t193) = true := decide_eq_true c17
      clear c17
      have c18b0 := eq_true (of_decide_eq_true zz3 : 0 ≤ (ji13))
      have c19b0 := eq_true (of_decide_eq_true zz3 : (ji13) ≤ (a0.size : Int))
      replace H := Option.bind_eq_some_iff.mp H
      obtain ⟨t194, A200, H⟩ := H
      replace H : (some (decide (t194 ≤ t190))) = some r := H
      have A20 := Aside0.mk A200
      clear A200
      have hsm_ := A16.out.symm.trans A20.out
      simp only [Option.some.injEq, Prod.mk.injEq] at hsm_
      obtain rfl := hsm_
      obtain rfl := Option.some.inj H
      go_enter Try.func105, Try.ntmps105
      go_wp2_with (first | ((with_reducible refine gate_callee (f := 107) rfl ?_); refine goesL_ (some 17) rfl rfl Try.func107 zz12 rfl #[.string a0, .int .i64 ji13] rfl zz40 ?_; (with_reducible refine (when_span.calls k a0 ji13 t189 t190 _ A3.out).mono ?_); rintro e w' ⟨rfl, ⟨nd, rfl⟩⟩; refine ⟨_, rfl, ?_⟩) | ((with_reducible refine gate_callee (f := 108) rfl ?_); refine goesL_ (some 42) rfl rfl Try.func108 zz12 rfl #[.string xt13] rfl zz40 ?_; (with_reducible refine (when_number.calls k xt13 t193 _ A16.out).mono ?_); rintro e w' ⟨rfl, ⟨nd, rfl⟩⟩; refine ⟨_, rfl, ?_⟩) | (go_at_call 108; (with_reducible refine (when_number.calls k xt13 t193 _ A20.out).mono ?_); rintro e w' ⟨rfl, ⟨nd, rfl⟩⟩))
      go_ret
      exact ⟨by first | rfl | (simp; done) | (simp only [← hji13] <;> (first | rfl | simp)) | (simp [*]; done), zz1⟩
     ·
      rw [if_neg c17] at H
      have c17b0 : decide (t189 ≤ t193) = false := decide_eq_false c17
      clear c17
      obtain rfl := Option.some.inj H
      go_enter Try.func105, Try.ntmps105
      go_wp2_with (first | ((with_reducible refine gate_callee (f := 107) rfl ?_); refine goesL_ (some 17) rfl rfl Try.func107 zz12 rfl #[.string a0, .int .i64 ji13] rfl zz40 ?_; (with_reducible refine (when_span.calls k a0 ji13 t189 t190 _ A3.out).mono ?_); rintro e w' ⟨rfl, ⟨nd, rfl⟩⟩; refine ⟨_, rfl, ?_⟩) | ((with_reducible refine gate_callee (f := 108) rfl ?_); refine goesL_ (some 42) rfl rfl Try.func108 zz12 rfl #[.string xt13] rfl zz40 ?_; (with_reducible refine (when_number.calls k xt13 t193 _ A16.out).mono ?_); rintro e w' ⟨rfl, ⟨nd, rfl⟩⟩; refine ⟨_, rfl, ?_⟩))
      go_ret
      exact ⟨by first | rfl | (simp; done) | (simp only [← hji13] <;> (first | rfl | simp)) | (simp [*]; done), zz1⟩
    ·
     rw [if_neg c15] at H
     exact absurd H zz30
   ·
    rw [if_neg c14] at H
    exact absurd H zz30
end Go.Proofs.Ytpfconocipmcjaa.PC
namespace Go.Proofs.Ytpfconocipmcjaa.PC
open RowKit YtpfconocipmcjaaW.PrintWords YtpfconocipmcjaaW.PrintLast YtpfconocipmcjaaW.PrintMore
attribute [local go_sem] max2_int min2_int max_two min_two max_three min_three max_four min_four
set_option linter.unusedVariables false
set_option linter.unusedSimpArgs false
def when_late.l0 : Nat → ByteArray → Option (Bool)
 | 0, _ => none
 | k + 1, x3 => if (x3.size : Int) < 4 then (if x3.size + 1 ≤ 9223372036854775807 then (when_late.l0 k (x3 ++ (⟨#[57]⟩ : ByteArray))) else (none)) else (if 0 ≤ 4 then (if 4 ≤ (x3.size : Int) then ((when_number.f k (x3.extract 0 4)).bind fun t195 => (some (decide (t195 ≥ 2050)))) else (none)) else (none))
def when_late.f (k : Nat) (a0 : ByteArray) : Option (Bool) := when_late.l0 k a0
set_option maxHeartbeats 8000000 in
set_option maxRecDepth 100000 in
theorem when_late.calls (k : Nat) (a0 : ByteArray) (r : Bool) (w : World) (h : when_late.f k a0 = some r) :
 Calls Try.prog 106 #[.string a0] w fun e w' => e = .returned (.bool r) ∧ Drawn0 w w' := by
 have H : (when_late.l0 k a0) = some r := h
 clear h
 have H' := Aside0.mk H
 clear H
 go_enter Try.func106, Try.ntmps106
 go_wp2
 go_loopg [3] k (fun kq v3 w' => ∃ (x3_1 : ByteArray), v3 = .string x3_1 ∧ Aside0 (when_late.l0 kq x3_1 = some r) ∧ Aside0 (kq ≤ k) ∧ Drawn0 w w')
 case atStart => exact ⟨(a0), zz0, H', ⟨Nat.le_refl _⟩, zz1⟩
 case round =>
  clear H'
  try clear c1
  obtain ⟨x3_1, rfl, HA, HK1, ⟨m1, rfl⟩⟩ := hrel
  cases gk with
  | zero => exact absurd HA.out (by simp [when_late.l0])
  | succ k1 =>
    have H := HA.out
    clear HA
    simp only [when_late.l0] at H
    by_cases c2 : (x3_1.size : Int) < 4
    ·
     rw [if_pos c2] at H
     have c2b0 : decide ((x3_1.size : Int) < 4) = true := decide_eq_true c2
     have c2b1 : decide (x3_1.size < 4) = true := decide_eq_true zz4
     clear c2
     by_cases c3 : x3_1.size + 1 ≤ 9223372036854775807
     ·
      rw [if_pos c3] at H
      have c3b0 := eq_true c3
      have c3b1 : decide (x3_1.size + 1 ≤ 9223372036854775807) = true := decide_eq_true c3
      try have c3b2 : (9223372036854775807 < x3_1.size + 1) = False := eq_false (Nat.not_lt.2 c3)
      have H' := Aside0.mk H
      clear H
      go_wp2
      go_roundg k1
      case measure => have := HK1.out; omega
      case rel => exact ⟨(x3_1 ++ (⟨#[57]⟩ : ByteArray)), zz0, H', ⟨zz57⟩, zz1⟩
     ·
      rw [if_neg c3] at H
      exact absurd H zz30
    ·
     rw [if_neg c2] at H
     have c2b0 : decide ((x3_1.size : Int) < 4) = false := decide_eq_false c2
     have c2b1 : decide (x3_1.size < 4) = false := decide_eq_false zz4
     clear c2
     by_cases c4 : 0 ≤ 4
     ·
      rw [if_pos c4] at H
      have c4b0 := eq_true c4
      have c4b1 : decide (0 ≤ 4) = true := decide_eq_true c4
      clear c4
      by_cases c5 : 4 ≤ (x3_1.size : Int)
      ·
       rw [if_pos c5] at H
       have c5b0 := eq_true c5
       have c5b1 : decide (4 ≤ (x3_1.size : Int)) = true := decide_eq_true c5
       clear c5
       replace H := Option.bind_eq_some_iff.mp H
       obtain ⟨t195, A60, H⟩ := H
       replace H : (some (decide (t195 ≥ 2050))) = some r := H
       have A6 := Aside0.mk A60
       clear A60
       obtain rfl := Option.some.inj H
       go_wp2_with (first | ((with_reducible refine gate_callee (f := 108) rfl ?_); refine goesL_ (some 12) rfl rfl Try.func108 zz12 rfl #[.string (x3_1.extract 0 4)] rfl zz5 ?_; (with_reducible refine (when_number.calls k1 (x3_1.extract 0 4) t195 _ A6.out).mono ?_); rintro e w' ⟨rfl, ⟨nd, rfl⟩⟩; refine ⟨_, rfl, ?_⟩))
       go_ret
       exact ⟨zz0, zz1⟩
      ·
       rw [if_neg c5] at H
       exact absurd H zz30
     ·
      rw [if_neg c4] at H
      exact absurd H zz30
end Go.Proofs.Ytpfconocipmcjaa.PC
namespace Go.Proofs.Ytpfconocipmcjaa.PC
open RowKit YtpfconocipmcjaaW.PrintWords YtpfconocipmcjaaW.PrintLast YtpfconocipmcjaaW.PrintMore
attribute [local go_sem] max2_int min2_int max_two min_two max_three min_three max_four min_four
set_option linter.unusedVariables false
set_option linter.unusedSimpArgs false
mutual
def when_State_Push.j0 : Nat → Int → Bool → ByteArray → Int → Bool → Option (ByteArray × Int × Bool × Bool)
 | 0, _, _, _, _, _ => none
 | k + 1, x1, x22, x197000, x197001, x197002 => if x22 = true then (some ((⟨#[]⟩ : ByteArray), 0, false, false)) else (if x197002 = true then (when_State_Push.j1 k x1 (x197000.toList == ([] : List UInt8)) x197000 x197001 x197002) else (when_State_Push.j1 k x1 false x197000 x197001 x197002))
def when_State_Push.j1 : Nat → Int → Bool → ByteArray → Int → Bool → Option (ByteArray × Int × Bool × Bool)
 | 0, _, _, _, _, _ => none
 | k + 1, x1, x30, x197000, x197001, x197002 => if x30 = true then (if x1 ≥ 53 then (when_State_Push.j2 k x1 (⟨#[49, 57]⟩ : ByteArray) x197001 x197002) else (when_State_Push.j2 k x1 (⟨#[50, 48]⟩ : ByteArray) x197001 x197002)) else (when_State_Push.j2 k x1 x197000 x197001 x197002)
def when_State_Push.j2 : Nat → Int → ByteArray → Int → Bool → Option (ByteArray × Int × Bool × Bool)
 | 0, _, _, _, _ => none
 | k + 1, x1, x197000, x197001, x197002 => (some (([x1] : List Int) : List Int)).bind fun y198 => (if x197000.size + (strOfNums y198).size ≤ 9223372036854775807 then ((when_may.f k (x197000 ++ (strOfNums y198))).bind fun t201 => (if t201 = true then (if x197002 = true then (some (x197000 ++ (strOfNums y198), x197001, x197002, true)) else ((when_late.f k (x197000 ++ (strOfNums y198))).bind fun t202 => (if t202 = true then (some (x197000 ++ (strOfNums y198), x197001, x197002, true)) else (some ((⟨#[]⟩ : ByteArray), 0, false, false))))) else (some ((⟨#[]⟩ : ByteArray), 0, false, false)))) else (none))
end
def when_State_Push.f (k : Nat) (a0_0 : ByteArray) (a0_1 : Int) (a0_2 : Bool) (a1 : Int) : Option (ByteArray × Int × Bool × Bool) := if (wrap64 (a0_1 - 1)) = 0 then (if a1 = 90 then (some (a0_0, wrap64 (a0_1 - 1), a0_2, true)) else (some ((⟨#[]⟩ : ByteArray), 0, false, false))) else (if a1 < 48 then (when_State_Push.j0 k a1 true a0_0 (wrap64 (a0_1 - 1)) a0_2) else (when_State_Push.j0 k a1 (decide (a1 > 57)) a0_0 (wrap64 (a0_1 - 1)) a0_2))
set_option maxHeartbeats 8000000 in
set_option maxRecDepth 100000 in
theorem when_State_Push.calls (k : Nat) (a0_0 : ByteArray) (a0_1 : Int) (a0_2 : Bool) (a1 : Int) (r1 : ByteArray) (r2 : Int) (r3 : Bool) (r4 : Bool) (w : World) (h : when_State_Push.f k a0_0 a0_1 a0_2 a1 = some (r1, r2, r3, r4)) :
 Calls Try.prog 104 #[.agg #[.string a0_0, .int .i64 a0_1, .bool a0_2], .int .u8 a1] w fun e w' => e = .returned (.tuple #[.agg #[.string r1, .int .i64 r2, .bool r3], .bool r4]) ∧ Below w.heap.size w w' := by
 have hu96 := Try.underlying96
 have HB := Aside0.mk (Below.refl w.heap.size w)
 have H : (if (wrap64 (a0_1 - 1)) = 0 then (if a1 = 90 then (some (a0_0, wrap64 (a0_1 - 1), a0_2, true)) else (some ((⟨#[]⟩ : ByteArray), 0, false, false))) else (if a1 < 48 then (when_State_Push.j0 k a1 true a0_0 (wrap64 (a0_1 - 1)) a0_2) else (when_State_Push.j0 k a1 (decide (a1 > 57)) a0_0 (wrap64 (a0_1 - 1)) a0_2))) = some (r1, r2, r3, r4) := h
 clear h
 by_cases c3 : (wrap64 (a0_1 - 1)) = 0
 ·
  rw [if_pos c3] at H
  have c3b0 : ((wrap64 (a0_1 - 1)) == 0) = true := beq_iff_eq.mpr c3
  have c3b1 : ((wrap64 (a0_1 - 1)) != 0) = false := bne_eq_false_iff_eq.mpr c3
  clear c3
  by_cases c4 : a1 = 90
  ·
   rw [if_pos c4] at H
   have c4b0 : (a1 == 90) = true := beq_iff_eq.mpr c4
   have c4b1 : (a1 != 90) = false := bne_eq_false_iff_eq.mpr c4
   clear c4
   simp only [Option.some.injEq, Prod.mk.injEq] at H
   obtain ⟨rfl, rfl, rfl, rfl⟩ := H
   go_enter Try.func104, Try.ntmps104
   go_wp2_with (first | ((with_reducible refine gate_dst (N := 2) rfl ?_); refine zzbx (N := 2) (cs := #[.string a0_0, .int .i64 a0_1, .bool a0_2]) (t := 96) ?_; intro gb196 hg w5 hbox hb; have n0_ := Aside0.mk (below_step zz2 hb); have n1_ := Aside0.mk (hbox); have n2_ := Aside0.mk ((zz45 : w.heap.size ≤ gb196)); have n3_ := n2_; clear HB; have HB := n0_; have BK196 := n1_; have GW196 := n2_; have GE196 := n3_; clear n0_ n1_ n2_ n3_; clear hb hbox hg) | ((with_reducible refine gate_dst (N := 4) rfl ?_); refine zzbx (N := 4) (cs := #[.string (⟨#[]⟩ : ByteArray), .int .i64 0, .bool false]) (t := 96) ?_; intro gb197 hg w6 hbox hb; have n0_ := Aside0.mk (blk_below (g := gb196) (o := .cells #[.string a0_0, .int .i64 a0_1, .bool a0_2] 96 (0, 0)) zz20 hb); have n1_ := Aside0.mk (below_step zz32 hb); have n2_ := Aside0.mk (hbox); have n3_ := Aside0.mk ((by rw [hg]; exact (below_size zz32) : w.heap.size ≤ gb197)); have n4_ := n3_; have n5_ := Aside0.mk ((zz54 : gb196 ≠ gb197)); have n6_ := Aside0.mk ((zz55 : gb197 ≠ gb196)); clear BK196; clear HB; have BK196 := n0_; have HB := n1_; have BK197 := n2_; have GW197 := n3_; have GE197 := n4_; have NB196_197 := n5_; have NB197_196 := n6_; clear n0_ n1_ n2_ n3_ n4_ n5_ n6_; clear hb hbox hg; have hnb7 := NB196_197.out; have hnc7 := NB197_196.out; have hcz8_0 : w6.cell? ⟨gb196, 0, none⟩ = some (.string a0_0) := (blk_cell BK196.out 0).trans rfl; have hcz8_1 : w6.cell? ⟨gb196, 1, none⟩ = some (.int .i64 a0_1) := (blk_cell BK196.out 1).trans rfl; have hcz8_2 : w6.cell? ⟨gb196, 2, none⟩ = some (.bool a0_2) := (blk_cell BK196.out 2).trans rfl; have hfz8_0 := blk_frozen BK196.out 0; have hfz8_1 := blk_frozen BK196.out 1; have hfz8_2 := blk_frozen BK196.out 2; have hcz9_0 : w6.cell? ⟨gb197, 0, none⟩ = some (.string (⟨#[]⟩ : ByteArray)) := (blk_cell BK197.out 0).trans rfl; have hcz9_1 : w6.cell? ⟨gb197, 1, none⟩ = some (.int .i64 0) := (blk_cell BK197.out 1).trans rfl; have hcz9_2 : w6.cell? ⟨gb197, 2, none⟩ = some (.bool false) := (blk_cell BK197.out 2).trans rfl; have hfz9_0 := blk_frozen BK197.out 0; have hfz9_1 := blk_frozen BK197.out 1; have hfz9_2 := blk_frozen BK197.out 2))
   refine bodyPost_ret (results_ct rfl _ _ gb197 96 #[.string a0_0, .int .i64 (wrap64 (a0_1 - 1)), .bool a0_2] (0, 0) _ rfl (by (with_reducible repeat (first | refine blk_drewN ?_ _ | refine blk_drew ?_ | refine blk_alloc ?_ _)); refine blk_put (cs := #[.string a0_0, .int .i64 (wrap64 (a0_1 - 1)), .bool false]) ?_ 2 _ rfl; (with_reducible repeat (first | refine blk_drewN ?_ _ | refine blk_drew ?_ | refine blk_alloc ?_ _)); refine blk_put (cs := #[.string a0_0, .int .i64 0, .bool false]) ?_ 1 _ rfl; (with_reducible repeat (first | refine blk_drewN ?_ _ | refine blk_drew ?_ | refine blk_alloc ?_ _)); refine blk_put (cs := #[.string (⟨#[]⟩ : ByteArray), .int .i64 0, .bool false]) ?_ 0 _ rfl; (with_reducible repeat (first | refine blk_drewN ?_ _ | refine blk_drew ?_ | refine blk_alloc ?_ _)); refine blk_far ?_ NB197_196.out _; (with_reducible repeat (first | refine blk_drewN ?_ _ | refine blk_drew ?_ | refine blk_alloc ?_ _)); exact BK197.out) Try.underlying96 rfl zz12) rfl ?_
   exact ⟨zz6, zz7⟩
  ·
   rw [if_neg c4] at H
   have c4b0 : (a1 == 90) = false := beq_eq_false_iff_ne.mpr c4
   have c4b1 : (a1 != 90) = true := bne_iff_ne.mpr c4
   simp only [Option.some.injEq, Prod.mk.injEq] at H
   obtain ⟨rfl, rfl, rfl, rfl⟩ := H
   go_enter Try.func104, Try.ntmps104
   go_wp2_with (first | ((with_reducible refine gate_dst (N := 2) rfl ?_); refine zzbx (N := 2) (cs := #[.string a0_0, .int .i64 a0_1, .bool a0_2]) (t := 96) ?_; intro gb196 hg w10 hbox hb; have n0_ := Aside0.mk (below_step zz2 hb); have n1_ := Aside0.mk (hbox); have n2_ := Aside0.mk ((zz45 : w.heap.size ≤ gb196)); have n3_ := n2_; clear HB; have HB := n0_; have BK196 := n1_; have GW196 := n2_; have GE196 := n3_; clear n0_ n1_ n2_ n3_; clear hb hbox hg) | ((with_reducible refine gate_dst (N := 4) rfl ?_); refine zzbx (N := 4) (cs := #[.string (⟨#[]⟩ : ByteArray), .int .i64 0, .bool false]) (t := 96) ?_; intro gb197 hg w11 hbox hb; have n0_ := Aside0.mk (blk_below (g := gb196) (o := .cells #[.string a0_0, .int .i64 a0_1, .bool a0_2] 96 (0, 0)) zz20 hb); have n1_ := Aside0.mk (below_step zz32 hb); have n2_ := Aside0.mk (hbox); have n3_ := Aside0.mk ((by rw [hg]; exact (below_size zz32) : w.heap.size ≤ gb197)); have n4_ := n3_; have n5_ := Aside0.mk ((zz54 : gb196 ≠ gb197)); have n6_ := Aside0.mk ((zz55 : gb197 ≠ gb196)); clear BK196; clear HB; have BK196 := n0_; have HB := n1_; have BK197 := n2_; have GW197 := n3_; have GE197 := n4_; have NB196_197 := n5_; have NB197_196 := n6_; clear n0_ n1_ n2_ n3_ n4_ n5_ n6_; clear hb hbox hg; have hnb12 := NB196_197.out; have hnc12 := NB197_196.out; have hcz13_0 : w11.cell? ⟨gb196, 0, none⟩ = some (.string a0_0) := (blk_cell BK196.out 0).trans rfl; have hcz13_1 : w11.cell? ⟨gb196, 1, none⟩ = some (.int .i64 a0_1) := (blk_cell BK196.out 1).trans rfl; have hcz13_2 : w11.cell? ⟨gb196, 2, none⟩ = some (.bool a0_2) := (blk_cell BK196.out 2).trans rfl; have hfz13_0 := blk_frozen BK196.out 0; have hfz13_1 := blk_frozen BK196.out 1; have hfz13_2 := blk_frozen BK196.out 2; have hcz14_0 : w11.cell? ⟨gb197, 0, none⟩ = some (.string (⟨#[]⟩ : ByteArray)) := (blk_cell BK197.out 0).trans rfl; have hcz14_1 : w11.cell? ⟨gb197, 1, none⟩ = some (.int .i64 0) := (blk_cell BK197.out 1).trans rfl; have hcz14_2 : w11.cell? ⟨gb197, 2, none⟩ = some (.bool false) := (blk_cell BK197.out 2).trans rfl; have hfz14_0 := blk_frozen BK197.out 0; have hfz14_1 := blk_frozen BK197.out 1; have hfz14_2 := blk_frozen BK197.out 2))
   refine bodyPost_ret (results_ct rfl _ _ gb197 96 #[.string (⟨#[]⟩ : ByteArray), .int .i64 0, .bool false] (0, 0) _ rfl zz21 Try.underlying96 rfl zz12) rfl ?_
   exact ⟨zz6, zz7⟩
 ·
  rw [if_neg c3] at H
  have c3b0 : ((wrap64 (a0_1 - 1)) == 0) = false := beq_eq_false_iff_ne.mpr c3
  have c3b1 : ((wrap64 (a0_1 - 1)) != 0) = true := bne_iff_ne.mpr c3
  have HC15 := Aside0.mk H
  clear H
  go_enter Try.func104, Try.ntmps104
  go_upto_region 6 with (first | ((with_reducible refine gate_dst (N := 2) rfl ?_); refine zzbx (N := 2) (cs := #[.string a0_0, .int .i64 a0_1, .bool a0_2]) (t := 96) ?_; intro gb196 hg w16 hbox hb; have n0_ := Aside0.mk (below_step zz2 hb); have n1_ := Aside0.mk (hbox); have n2_ := Aside0.mk ((zz45 : w.heap.size ≤ gb196)); have n3_ := n2_; clear HB; have HB := n0_; have BK196 := n1_; have GW196 := n2_; have GE196 := n3_; clear n0_ n1_ n2_ n3_; clear hb hbox hg) | ((with_reducible refine gate_dst (N := 4) rfl ?_); refine zzbx (N := 4) (cs := #[.string (⟨#[]⟩ : ByteArray), .int .i64 0, .bool false]) (t := 96) ?_; intro gb197 hg w17 hbox hb; have n0_ := Aside0.mk (blk_below (g := gb196) (o := .cells #[.string a0_0, .int .i64 a0_1, .bool a0_2] 96 (0, 0)) zz20 hb); have n1_ := Aside0.mk (below_step zz32 hb); have n2_ := Aside0.mk (hbox); have n3_ := Aside0.mk ((by rw [hg]; exact (below_size zz32) : w.heap.size ≤ gb197)); have n4_ := n3_; have n5_ := Aside0.mk ((zz54 : gb196 ≠ gb197)); have n6_ := Aside0.mk ((zz55 : gb197 ≠ gb196)); clear BK196; clear HB; have BK196 := n0_; have HB := n1_; have BK197 := n2_; have GW197 := n3_; have GE197 := n4_; have NB196_197 := n5_; have NB197_196 := n6_; clear n0_ n1_ n2_ n3_ n4_ n5_ n6_; clear hb hbox hg; have hnb18 := NB196_197.out; have hnc18 := NB197_196.out; have hcz19_0 : w17.cell? ⟨gb196, 0, none⟩ = some (.string a0_0) := (blk_cell BK196.out 0).trans rfl; have hcz19_1 : w17.cell? ⟨gb196, 1, none⟩ = some (.int .i64 a0_1) := (blk_cell BK196.out 1).trans rfl; have hcz19_2 : w17.cell? ⟨gb196, 2, none⟩ = some (.bool a0_2) := (blk_cell BK196.out 2).trans rfl; have hfz19_0 := blk_frozen BK196.out 0; have hfz19_1 := blk_frozen BK196.out 1; have hfz19_2 := blk_frozen BK196.out 2))
  (try simp only [Act.put, List.setIfInBounds_toArray, List.set_cons_zero, List.set_cons_succ])
  go_cut [22] (fun v22 wc => ∃ (kq : Nat) (x22_14 : Bool), v22 = .bool x22_14 ∧ Aside0 (when_State_Push.j0 kq a1 x22_14 a0_0 (wrap64 (a0_1 - 1)) a0_2 = some (r1, r2, r3, r4)) ∧ Aside0 (kq ≤ k) ∧ Aside0 (wc.heap[gb196]? = some (.cells #[.string a0_0, .int .i64 (wrap64 (a0_1 - 1)), .bool a0_2] 96 (0, 0))) ∧ Aside0 (wc.heap[gb197]? = some (.cells #[.string (⟨#[]⟩ : ByteArray), .int .i64 0, .bool false] 96 (0, 0))) ∧ Aside0 (Below w.heap.size w wc))
  case first =>
   have H := HC15.out
   clear HC15
   by_cases c20 : a1 < 48
   ·
    rw [if_pos c20] at H
    have c20b0 : decide (a1 < 48) = true := decide_eq_true c20
    clear c20
    (first | rw [c20b0] | (simp only [i64_w, i32_w]; rw [c20b0]) | skip)
    have H' := Aside0.mk H
    clear H
    go_wp2
    go_meet
    case rel => exact ⟨_, (true), zz0, H', ⟨zz25⟩, ⟨by (with_reducible repeat (first | refine blk_drewN ?_ _ | refine blk_drew ?_ | refine blk_alloc ?_ _)); refine blk_put (cs := #[.string a0_0, .int .i64 a0_1, .bool a0_2]) ?_ 1 _ rfl; (with_reducible repeat (first | refine blk_drewN ?_ _ | refine blk_drew ?_ | refine blk_alloc ?_ _)); exact BK196.out⟩, ⟨zz39⟩, ⟨zz7⟩⟩
   ·
    rw [if_neg c20] at H
    have c20b0 : decide (a1 < 48) = false := decide_eq_false c20
    clear c20
    (first | rw [c20b0] | (simp only [i64_w, i32_w]; rw [c20b0]) | skip)
    have H' := Aside0.mk H
    clear H
    go_wp2
    go_meet
    case rel => exact ⟨_, (decide (a1 > 57)), zz0, H', ⟨zz25⟩, ⟨by (with_reducible repeat (first | refine blk_drewN ?_ _ | refine blk_drew ?_ | refine blk_alloc ?_ _)); refine blk_put (cs := #[.string a0_0, .int .i64 a0_1, .bool a0_2]) ?_ 1 _ rfl; (with_reducible repeat (first | refine blk_drewN ?_ _ | refine blk_drew ?_ | refine blk_alloc ?_ _)); exact BK196.out⟩, ⟨zz39⟩, ⟨zz7⟩⟩
  case rest =>
   clear HC15
   try clear c1
   try clear c2
   try clear p2
   try clear c3
   try clear c3b0
   try clear c3b1
   try clear c4
   try clear c4b0
   try clear c4b1
   try clear p6
   try clear c7
   try clear c10
   try clear c12
   try clear c18
   try clear c20
   try clear c20b0
   try clear hcz13_0
   try clear hcz13_1
   try clear hcz13_2
   try clear hcz14_0
   try clear hcz14_1
   try clear hcz14_2
   try clear hcz19_0
   try clear hcz19_1
   try clear hcz19_2
   try clear hcz8_0
   try clear hcz8_1
   try clear hcz8_2
   try clear hcz9_0
   try clear hcz9_1
   try clear hcz9_2
   try clear hfz13_0
   try clear hfz13_1
   try clear hfz13_2
   try clear hfz14_0
   try clear hfz14_1
   try clear hfz14_2
   try clear hfz19_0
   try clear hfz19_1
   try clear hfz19_2
   try clear hfz8_0
   try clear hfz8_1
   try clear hfz8_2
   try clear hfz9_0
   try clear hfz9_1
   try clear hfz9_2
   obtain ⟨kq, x22_14, rfl, HA, HJ14, BK196, BK197, HB⟩ := hcut
   cases kq with
   | zero => exact absurd HA.out (by simp [when_State_Push.j0])
   | succ kj14 =>
     have H := HA.out
     clear HA
     simp only [when_State_Push.j0] at H
     by_cases c21 : x22_14 = true
     ·
      subst c21
      rw [if_pos rfl] at H
      simp only [Option.some.injEq, Prod.mk.injEq] at H
      obtain ⟨rfl, rfl, rfl, rfl⟩ := H
      have hnb22 := NB197_196.out
      have hnc22 := NB196_197.out
      have hcz23_0 : wc.cell? ⟨gb197, 0, none⟩ = some (.string (⟨#[]⟩ : ByteArray)) := (blk_cell BK197.out 0).trans rfl
      have hcz23_1 : wc.cell? ⟨gb197, 1, none⟩ = some (.int .i64 0) := (blk_cell BK197.out 1).trans rfl
      have hcz23_2 : wc.cell? ⟨gb197, 2, none⟩ = some (.bool false) := (blk_cell BK197.out 2).trans rfl
      have hfz23_0 := blk_frozen BK197.out 0
      have hfz23_1 := blk_frozen BK197.out 1
      have hfz23_2 := blk_frozen BK197.out 2
      go_wp2
      refine bodyPost_ret (results_ct rfl _ _ gb197 96 #[.string (⟨#[]⟩ : ByteArray), .int .i64 0, .bool false] (0, 0) _ rfl (by (with_reducible repeat (first | refine blk_drewN ?_ _ | refine blk_drew ?_ | refine blk_alloc ?_ _)); refine blk_put (cs := #[.string (⟨#[]⟩ : ByteArray), .int .i64 0, .bool false]) ?_ 2 _ rfl; (with_reducible repeat (first | refine blk_drewN ?_ _ | refine blk_drew ?_ | refine blk_alloc ?_ _)); refine blk_put (cs := #[.string (⟨#[]⟩ : ByteArray), .int .i64 0, .bool false]) ?_ 1 _ rfl; (with_reducible repeat (first | refine blk_drewN ?_ _ | refine blk_drew ?_ | refine blk_alloc ?_ _)); refine blk_put (cs := #[.string (⟨#[]⟩ : ByteArray), .int .i64 0, .bool false]) ?_ 0 _ rfl; (with_reducible repeat (first | refine blk_drewN ?_ _ | refine blk_drew ?_ | refine blk_alloc ?_ _)); exact BK197.out) Try.underlying96 rfl zz12) rfl ?_
      exact ⟨zz6, zz7⟩
     ·
      replace c21 := Bool.eq_false_iff.mpr c21
      subst c21
      rw [if_neg (show ¬ (false = true) by decide)] at H
      have HC24 := Aside0.mk H
      clear H
      go_upto_region 8 with (fail)
      go_cut [30] (fun v30 wc => ∃ (kq : Nat) (x30_23 : Bool), v30 = .bool x30_23 ∧ Aside0 (when_State_Push.j1 kq a1 x30_23 a0_0 (wrap64 (a0_1 - 1)) a0_2 = some (r1, r2, r3, r4)) ∧ Aside0 (kq ≤ kj14) ∧ Aside0 (wc.heap[gb196]? = some (.cells #[.string a0_0, .int .i64 (wrap64 (a0_1 - 1)), .bool a0_2] 96 (0, 0))) ∧ Aside0 (wc.heap[gb197]? = some (.cells #[.string (⟨#[]⟩ : ByteArray), .int .i64 0, .bool false] 96 (0, 0))) ∧ Aside0 (Below w.heap.size w wc))
      case first =>
       have H := HC24.out
       clear HC24
       by_cases c25 : a0_2 = true
       ·
        subst c25
        rw [if_pos rfl] at H
        have H' := Aside0.mk H
        clear H
        have hnb26 := NB196_197.out
        have hnc26 := NB197_196.out
        have hcz27_0 : wc.cell? ⟨gb196, 0, none⟩ = some (.string a0_0) := (blk_cell BK196.out 0).trans rfl
        have hcz27_1 : wc.cell? ⟨gb196, 1, none⟩ = some (.int .i64 (wrap64 (a0_1 - 1))) := (blk_cell BK196.out 1).trans rfl
        have hcz27_2 : wc.cell? ⟨gb196, 2, none⟩ = some (.bool true) := (blk_cell BK196.out 2).trans rfl
        have hfz27_0 := blk_frozen BK196.out 0
        have hfz27_1 := blk_frozen BK196.out 1
        have hfz27_2 := blk_frozen BK196.out 2
        go_wp2
        go_meet
        case rel => exact ⟨_, ((a0_0.toList == ([] : List UInt8))), zz0, H', ⟨by have := HJ14.out; first | omega | exact Nat.le_refl _⟩, ⟨zz20⟩, ⟨zz36⟩, ⟨zz7⟩⟩
       ·
        replace c25 := Bool.eq_false_iff.mpr c25
        subst c25
        rw [if_neg (show ¬ (false = true) by decide)] at H
        have H' := Aside0.mk H
        clear H
        have hnb28 := NB196_197.out
        have hnc28 := NB197_196.out
        have hcz29_0 : wc.cell? ⟨gb196, 0, none⟩ = some (.string a0_0) := (blk_cell BK196.out 0).trans rfl
        have hcz29_1 : wc.cell? ⟨gb196, 1, none⟩ = some (.int .i64 (wrap64 (a0_1 - 1))) := (blk_cell BK196.out 1).trans rfl
        have hcz29_2 : wc.cell? ⟨gb196, 2, none⟩ = some (.bool false) := (blk_cell BK196.out 2).trans rfl
        have hfz29_0 := blk_frozen BK196.out 0
        have hfz29_1 := blk_frozen BK196.out 1
        have hfz29_2 := blk_frozen BK196.out 2
        go_wp2
        go_meet
        case rel => exact ⟨_, (false), zz0, H', ⟨by have := HJ14.out; first | omega | exact Nat.le_refl _⟩, ⟨zz20⟩, ⟨zz36⟩, ⟨zz7⟩⟩
      case rest =>
       clear HC24
       try clear c1
       try clear c2
       try clear p2
       try clear c3
       try clear c3b0
       try clear c3b1
       try clear c4
       try clear c4b0
       try clear c4b1
       try clear p6
       try clear c7
       try clear c10
       try clear c12
       try clear c18
       try clear c20
       try clear c20b0
       try clear c21
       try clear c22
       try clear c25
       try clear c26
       try clear c28
       try clear hcz13_0
       try clear hcz13_1
       try clear hcz13_2
       try clear hcz14_0
       try clear hcz14_1
       try clear hcz14_2
       try clear hcz19_0
       try clear hcz19_1
       try clear hcz19_2
       try clear hcz23_0
       try clear hcz23_1
       try clear hcz23_2
       try clear hcz27_0
       try clear hcz27_1
       try clear hcz27_2
       try clear hcz29_0
       try clear hcz29_1
       try clear hcz29_2
       try clear hcz8_0
       try clear hcz8_1
       try clear hcz8_2
       try clear hcz9_0
       try clear hcz9_1
       try clear hcz9_2
       try clear hfz13_0
       try clear hfz13_1
       try clear hfz13_2
       try clear hfz14_0
       try clear hfz14_1
       try clear hfz14_2
       try clear hfz19_0
       try clear hfz19_1
       try clear hfz19_2
       try clear hfz23_0
       try clear hfz23_1
       try clear hfz23_2
       try clear hfz27_0
       try clear hfz27_1
       try clear hfz27_2
       try clear hfz29_0
       try clear hfz29_1
       try clear hfz29_2
       try clear hfz8_0
       try clear hfz8_1
       try clear hfz8_2
       try clear hfz9_0
       try clear hfz9_1
       try clear hfz9_2
       try clear p2
       try clear p6
       obtain ⟨kq, x30_23, rfl, HA, HJ23, BK196, BK197, HB⟩ := hcut
       cases kq with
       | zero => exact absurd HA.out (by simp [when_State_Push.j1])
       | succ kj23 =>
         have H := HA.out
         clear HA
         simp only [when_State_Push.j1] at H
         have HC30 := Aside0.mk H
         clear H
         go_upto_if 30 with (fail)
         go_cut [] (fun wc => ∃ (kq : Nat) (x197000_29 : ByteArray), Aside0 (when_State_Push.j2 kq a1 x197000_29 (wrap64 (a0_1 - 1)) a0_2 = some (r1, r2, r3, r4)) ∧ Aside0 (kq ≤ kj23) ∧ Aside0 (wc.heap[gb196]? = some (.cells #[.string x197000_29, .int .i64 (wrap64 (a0_1 - 1)), .bool a0_2] 96 (0, 0))) ∧ Aside0 (wc.heap[gb197]? = some (.cells #[.string (⟨#[]⟩ : ByteArray), .int .i64 0, .bool false] 96 (0, 0))) ∧ Aside0 (Below w.heap.size w wc))
         case first =>
          have H := HC30.out
          clear HC30
          by_cases c31 : x30_23 = true
          ·
           subst c31
           rw [if_pos rfl] at H
           by_cases c32 : a1 ≥ 53
           ·
            rw [if_pos c32] at H
            have c32b0 : decide (53 ≤ a1) = true := decide_eq_true c32
            clear c32
            (first | rw [c32b0] | (simp only [i64_w, i32_w]; rw [c32b0]) | skip)
            have H' := Aside0.mk H
            clear H
            have hnb33 := NB196_197.out
            have hnc33 := NB197_196.out
            have hcz34_0 : wc.cell? ⟨gb196, 0, none⟩ = some (.string a0_0) := (blk_cell BK196.out 0).trans rfl
            have hcz34_1 : wc.cell? ⟨gb196, 1, none⟩ = some (.int .i64 (wrap64 (a0_1 - 1))) := (blk_cell BK196.out 1).trans rfl
            have hcz34_2 : wc.cell? ⟨gb196, 2, none⟩ = some (.bool a0_2) := (blk_cell BK196.out 2).trans rfl
            have hfz34_0 := blk_frozen BK196.out 0
            have hfz34_1 := blk_frozen BK196.out 1
            have hfz34_2 := blk_frozen BK196.out 2
            go_wp2
            go_meet
            case rel => exact ⟨_, ((⟨#[49, 57]⟩ : ByteArray)), H', ⟨by have := HJ14.out; have := HJ23.out; first | omega | exact Nat.le_refl _⟩, ⟨by (with_reducible repeat (first | refine blk_drewN ?_ _ | refine blk_drew ?_ | refine blk_alloc ?_ _)); refine blk_put (cs := #[.string (⟨#[50, 48]⟩ : ByteArray), .int .i64 (wrap64 (a0_1 - 1)), .bool a0_2]) ?_ 0 _ rfl; (with_reducible repeat (first | refine blk_drewN ?_ _ | refine blk_drew ?_ | refine blk_alloc ?_ _)); refine blk_put (cs := #[.string a0_0, .int .i64 (wrap64 (a0_1 - 1)), .bool a0_2]) ?_ 0 _ rfl; (with_reducible repeat (first | refine blk_drewN ?_ _ | refine blk_drew ?_ | refine blk_alloc ?_ _)); exact BK196.out⟩, ⟨by (with_reducible repeat (first | refine blk_drewN ?_ _ | refine blk_drew ?_ | refine blk_alloc ?_ _)); refine blk_far ?_ NB197_196.out _; (with_reducible repeat (first | refine blk_drewN ?_ _ | refine blk_drew ?_ | refine blk_alloc ?_ _)); refine blk_far ?_ NB197_196.out _; (with_reducible repeat (first | refine blk_drewN ?_ _ | refine blk_drew ?_ | refine blk_alloc ?_ _)); exact BK197.out⟩, ⟨zz7⟩⟩
           ·
            rw [if_neg c32] at H
            have c32b0 : decide (53 ≤ a1) = false := decide_eq_false c32
            clear c32
            (first | rw [c32b0] | (simp only [i64_w, i32_w]; rw [c32b0]) | skip)
            have H' := Aside0.mk H
            clear H
            have hnb35 := NB196_197.out
            have hnc35 := NB197_196.out
            have hcz36_0 : wc.cell? ⟨gb196, 0, none⟩ = some (.string a0_0) := (blk_cell BK196.out 0).trans rfl
            have hcz36_1 : wc.cell? ⟨gb196, 1, none⟩ = some (.int .i64 (wrap64 (a0_1 - 1))) := (blk_cell BK196.out 1).trans rfl
            have hcz36_2 : wc.cell? ⟨gb196, 2, none⟩ = some (.bool a0_2) := (blk_cell BK196.out 2).trans rfl
            have hfz36_0 := blk_frozen BK196.out 0
            have hfz36_1 := blk_frozen BK196.out 1
            have hfz36_2 := blk_frozen BK196.out 2
            go_wp2
            go_meet
            case rel => exact ⟨_, ((⟨#[50, 48]⟩ : ByteArray)), H', ⟨by have := HJ14.out; have := HJ23.out; first | omega | exact Nat.le_refl _⟩, ⟨by (with_reducible repeat (first | refine blk_drewN ?_ _ | refine blk_drew ?_ | refine blk_alloc ?_ _)); refine blk_put (cs := #[.string a0_0, .int .i64 (wrap64 (a0_1 - 1)), .bool a0_2]) ?_ 0 _ rfl; (with_reducible repeat (first | refine blk_drewN ?_ _ | refine blk_drew ?_ | refine blk_alloc ?_ _)); exact BK196.out⟩, ⟨zz39⟩, ⟨zz7⟩⟩
          ·
           replace c31 := Bool.eq_false_iff.mpr c31
           subst c31
           rw [if_neg (show ¬ (false = true) by decide)] at H
           have H' := Aside0.mk H
           clear H
           go_wp2
           go_meet
           case rel => exact ⟨_, (a0_0), H', ⟨by have := HJ14.out; have := HJ23.out; first | omega | exact Nat.le_refl _⟩, ⟨zz20⟩, ⟨zz36⟩, ⟨zz7⟩⟩
         case rest =>
          clear HC30
          try clear c1
          try clear c2
          try clear p2
          try clear c3
          try clear c3b0
          try clear c3b1
          try clear c4
          try clear c4b0
          try clear c4b1
          try clear p6
          try clear c7
          try clear c10
          try clear c12
          try clear c18
          try clear c20
          try clear c20b0
          try clear c21
          try clear c22
          try clear c25
          try clear c26
          try clear c28
          try clear c31
          try clear c32
          try clear c32b0
          try clear c33
          try clear c35
          try clear hcz13_0
          try clear hcz13_1
          try clear hcz13_2
          try clear hcz14_0
          try clear hcz14_1
          try clear hcz14_2
          try clear hcz19_0
          try clear hcz19_1
          try clear hcz19_2
          try clear hcz23_0
          try clear hcz23_1
          try clear hcz23_2
          try clear hcz27_0
          try clear hcz27_1
          try clear hcz27_2
          try clear hcz29_0
          try clear hcz29_1
          try clear hcz29_2
          try clear hcz34_0
          try clear hcz34_1
          try clear hcz34_2
          try clear hcz36_0
          try clear hcz36_1
          try clear hcz36_2
          try clear hcz8_0
          try clear hcz8_1
          try clear hcz8_2
          try clear hcz9_0
          try clear hcz9_1
          try clear hcz9_2
          try clear hfz13_0
          try clear hfz13_1
          try clear hfz13_2
          try clear hfz14_0
          try clear hfz14_1
          try clear hfz14_2
          try clear hfz19_0
          try clear hfz19_1
          try clear hfz19_2
          try clear hfz23_0
          try clear hfz23_1
          try clear hfz23_2
          try clear hfz27_0
          try clear hfz27_1
          try clear hfz27_2
          try clear hfz29_0
          try clear hfz29_1
          try clear hfz29_2
          try clear hfz34_0
          try clear hfz34_1
          try clear hfz34_2
          try clear hfz36_0
          try clear hfz36_1
          try clear hfz36_2
          try clear hfz8_0
          try clear hfz8_1
          try clear hfz8_2
          try clear hfz9_0
          try clear hfz9_1
          try clear hfz9_2
          try clear p2
          try clear p6
          obtain ⟨kq, x197000_29, HA, HJ29, BK196, BK197, HB⟩ := hcut
          cases kq with
          | zero => exact absurd HA.out (by simp [when_State_Push.j2])
          | succ kj29 =>
            have H := HA.out
            clear HA
            simp only [when_State_Push.j2] at H
            obtain ⟨y198, hy198⟩ : ∃ y_ : List Int, y_ = (([a1] : List Int)) := ⟨_, rfl⟩
            replace H : (if x197000_29.size + (strOfNums y198).size ≤ 9223372036854775807 then ((when_may.f kj29 (x197000_29 ++ (strOfNums y198))).bind fun t201 => (if t201 = true then (if a0_2 = true then (some (x197000_29 ++ (strOfNums y198), (wrap64 (a0_1 - 1)), a0_2, true)) else ((when_late.f kj29 (x197000_29 ++ (strOfNums y198))).bind fun t202 => (if t202 = true then (some (x197000_29 ++ (strOfNums y198), (wrap64 (a0_1 - 1)), a0_2, true)) else (some ((⟨#[]⟩ : ByteArray), 0, false, false))))) else (some ((⟨#[]⟩ : ByteArray), 0, false, false)))) else (none)) = some (r1, r2, r3, r4) := by first | (rw [hy198]; with_reducible exact H) | (have H2_ := (Option.bind_some _ _).symm.trans H; rw [hy198]; with_reducible exact H2_) | (have H2_ := (Option.bind_some _ _).symm.trans H; with_reducible exact H2_) | with_reducible exact H | (rw [hy198]; exact H) | exact H
            have Ny198 := Aside0.mk hy198
            clear hy198
            by_cases c37 : x197000_29.size + (strOfNums y198).size ≤ 9223372036854775807
            ·
             rw [if_pos c37] at H
             have c37b0 := eq_true c37
             have c37b1 : decide (x197000_29.size + (strOfNums y198).size ≤ 9223372036854775807) = true := decide_eq_true c37
             try have c37b2 : (9223372036854775807 < x197000_29.size + (strOfNums y198).size) = False := eq_false (Nat.not_lt.2 c37)
             replace H := Option.bind_eq_some_iff.mp H
             obtain ⟨t201, A380, H⟩ := H
             replace H : (if t201 = true then (if a0_2 = true then (some (x197000_29 ++ (strOfNums y198), (wrap64 (a0_1 - 1)), a0_2, true)) else ((when_late.f kj29 (x197000_29 ++ (strOfNums y198))).bind fun t202 => (if t202 = true then (some (x197000_29 ++ (strOfNums y198), (wrap64 (a0_1 - 1)), a0_2, true)) else (some ((⟨#[]⟩ : ByteArray), 0, false, false))))) else (some ((⟨#[]⟩ : ByteArray), 0, false, false))) = some (r1, r2, r3, r4) := H
             have A38 := Aside0.mk A380
             clear A380
             by_cases c39 : t201 = true
             ·
              subst c39
              rw [if_pos rfl] at H
              by_cases c40 : a0_2 = true
              ·
               subst c40
               rw [if_pos rfl] at H
               simp only [Option.some.injEq, Prod.mk.injEq] at H
               obtain ⟨rfl, rfl, rfl, rfl⟩ := H
               have hnb41 := NB196_197.out
               have hnc41 := NB197_196.out
               have hcz42_0 : wc.cell? ⟨gb196, 0, none⟩ = some (.string x197000_29) := (blk_cell BK196.out 0).trans rfl
               have hcz42_1 : wc.cell? ⟨gb196, 1, none⟩ = some (.int .i64 (wrap64 (a0_1 - 1))) := (blk_cell BK196.out 1).trans rfl
               have hcz42_2 : wc.cell? ⟨gb196, 2, none⟩ = some (.bool true) := (blk_cell BK196.out 2).trans rfl
               have hfz42_0 := blk_frozen BK196.out 0
               have hfz42_1 := blk_frozen BK196.out 1
               have hfz42_2 := blk_frozen BK196.out 2
               go_wp2_with (first | ((with_reducible refine gate_dst (N := 38) rfl ?_); refine Kd.R_lit (Kd.int .u8) _ 5 ?hg (N := 38) ?hd (xs := ([a1] : List Int)) (inner := [.int .u8 a1]) (ok := fun _ => True) (okp := fun _ => True) ?hr ?hp (fun _ hk => hk) trivial (Below.refl _ _) (Nat.le_refl _) zz30 ?_; (case hd => rfl); (case hg => rfl); (case hr => first | (go_simp; done) | (go_simp; rfl)); (case hp => exact (Reps.one (show Kd.M (Kd.int .u8) _ _ _ a1 [.int .u8 a1] from rfl) (Reps.none _ _))); intro v199 w43 ho44 hb hg_ hnew_; clear hg_ hnew_; (first | rw [← Ny198.out] at ho44 | (simp only [Int.reduceToNat] at ho44; rw [← Ny198.out] at ho44)); have n0_ := Aside0.mk (Kd.R_lower ho44 (below_size zz7)); have n1_ := Aside0.mk (blk_below (g := gb196) (o := .cells #[.string x197000_29, .int .i64 (wrap64 (a0_1 - 1)), .bool true] 96 (0, 0)) zz20 hb); have n2_ := Aside0.mk (blk_below (g := gb197) (o := .cells #[.string (⟨#[]⟩ : ByteArray), .int .i64 0, .bool false] 96 (0, 0)) zz36 hb); have n3_ := Aside0.mk (below_step zz7 hb); clear BK196; clear BK197; clear HB; have HO200 := n0_; have BK196 := n1_; have BK197 := n2_; have HB := n3_; clear n0_ n1_ n2_ n3_; clear hb ho44; have hcv45 := own_string (P := Try.prog) Try.underlying52 Try.underlying5 Try.underlying9 (Kd.own_of_R HO200.out); have hcz46_0 : w43.cell? ⟨gb196, 0, none⟩ = some (.string x197000_29) := (blk_cell BK196.out 0).trans rfl; have hcz46_1 : w43.cell? ⟨gb196, 1, none⟩ = some (.int .i64 (wrap64 (a0_1 - 1))) := (blk_cell BK196.out 1).trans rfl; have hcz46_2 : w43.cell? ⟨gb196, 2, none⟩ = some (.bool true) := (blk_cell BK196.out 2).trans rfl; have hfz46_0 := blk_frozen BK196.out 0; have hfz46_1 := blk_frozen BK196.out 1; have hfz46_2 := blk_frozen BK196.out 2) | ((with_reducible refine gate_callee (f := 105) rfl ?_); refine goesL_ (some 44) rfl rfl Try.func105 zz12 rfl #[.string (x197000_29 ++ (strOfNums y198))] rfl zz5 ?_; (with_reducible refine (when_may.calls kj29 (x197000_29 ++ (strOfNums y198)) true _ A38.out).mono ?_); rintro e w' ⟨rfl, ⟨nd, rfl⟩⟩; refine ⟨_, rfl, ?_⟩; have hcz47_0 : w43.cell? ⟨gb197, 0, none⟩ = some (.string (⟨#[]⟩ : ByteArray)) := (blk_cell BK197.out 0).trans rfl; have hcz47_1 : w43.cell? ⟨gb197, 1, none⟩ = some (.int .i64 0) := (blk_cell BK197.out 1).trans rfl; have hcz47_2 : w43.cell? ⟨gb197, 2, none⟩ = some (.bool false) := (blk_cell BK197.out 2).trans rfl; have hfz47_0 := blk_frozen BK197.out 0; have hfz47_1 := blk_frozen BK197.out 1; have hfz47_2 := blk_frozen BK197.out 2))
               refine bodyPost_ret (results_ct rfl _ _ gb197 96 #[.string (x197000_29 ++ (strOfNums y198)), .int .i64 (wrap64 (a0_1 - 1)), .bool true] (0, 0) _ rfl (by (with_reducible repeat (first | refine blk_drewN ?_ _ | refine blk_drew ?_ | refine blk_alloc ?_ _)); refine blk_put (cs := #[.string (x197000_29 ++ (strOfNums y198)), .int .i64 (wrap64 (a0_1 - 1)), .bool false]) ?_ 2 _ rfl; (with_reducible repeat (first | refine blk_drewN ?_ _ | refine blk_drew ?_ | refine blk_alloc ?_ _)); refine blk_put (cs := #[.string (x197000_29 ++ (strOfNums y198)), .int .i64 0, .bool false]) ?_ 1 _ rfl; (with_reducible repeat (first | refine blk_drewN ?_ _ | refine blk_drew ?_ | refine blk_alloc ?_ _)); refine blk_put (cs := #[.string (⟨#[]⟩ : ByteArray), .int .i64 0, .bool false]) ?_ 0 _ rfl; (with_reducible repeat (first | refine blk_drewN ?_ _ | refine blk_drew ?_ | refine blk_alloc ?_ _)); refine blk_far ?_ NB197_196.out _; (with_reducible repeat (first | refine blk_drewN ?_ _ | refine blk_drew ?_ | refine blk_alloc ?_ _)); exact BK197.out) Try.underlying96 rfl zz12) rfl ?_
               exact ⟨zz6, zz7⟩
              ·
               replace c40 := Bool.eq_false_iff.mpr c40
               subst c40
               rw [if_neg (show ¬ (false = true) by decide)] at H
               replace H := Option.bind_eq_some_iff.mp H
               obtain ⟨t202, A480, H⟩ := H
               replace H : (if t202 = true then (some (x197000_29 ++ (strOfNums y198), (wrap64 (a0_1 - 1)), false, true)) else (some ((⟨#[]⟩ : ByteArray), 0, false, false))) = some (r1, r2, r3, r4) := H
               have A48 := Aside0.mk A480
               clear A480
               by_cases c49 : t202 = true
               ·
                subst c49
                rw [if_pos rfl] at H
                simp only [Option.some.injEq, Prod.mk.injEq] at H
                obtain ⟨rfl, rfl, rfl, rfl⟩ := H
                have hnb50 := NB196_197.out
                have hnc50 := NB197_196.out
                have hcz51_0 : wc.cell? ⟨gb196, 0, none⟩ = some (.string x197000_29) := (blk_cell BK196.out 0).trans rfl
                have hcz51_1 : wc.cell? ⟨gb196, 1, none⟩ = some (.int .i64 (wrap64 (a0_1 - 1))) := (blk_cell BK196.out 1).trans rfl
                have hcz51_2 : wc.cell? ⟨gb196, 2, none⟩ = some (.bool false) := (blk_cell BK196.out 2).trans rfl
                have hfz51_0 := blk_frozen BK196.out 0
                have hfz51_1 := blk_frozen BK196.out 1
                have hfz51_2 := blk_frozen BK196.out 2
                go_wp2_with (first | ((with_reducible refine gate_dst (N := 38) rfl ?_); refine Kd.R_lit (Kd.int .u8) _ 5 ?hg (N := 38) ?hd (xs := ([a1] : List Int)) (inner := [.int .u8 a1]) (ok := fun _ => True) (okp := fun _ => True) ?hr ?hp (fun _ hk => hk) trivial (Below.refl _ _) (Nat.le_refl _) zz30 ?_; (case hd => rfl); (case hg => rfl); (case hr => first | (go_simp; done) | (go_simp; rfl)); (case hp => exact (Reps.one (show Kd.M (Kd.int .u8) _ _ _ a1 [.int .u8 a1] from rfl) (Reps.none _ _))); intro v199 w52 ho53 hb hg_ hnew_; clear hg_ hnew_; (first | rw [← Ny198.out] at ho53 | (simp only [Int.reduceToNat] at ho53; rw [← Ny198.out] at ho53)); have n0_ := Aside0.mk (Kd.R_lower ho53 (below_size zz7)); have n1_ := Aside0.mk (blk_below (g := gb196) (o := .cells #[.string x197000_29, .int .i64 (wrap64 (a0_1 - 1)), .bool false] 96 (0, 0)) zz20 hb); have n2_ := Aside0.mk (blk_below (g := gb197) (o := .cells #[.string (⟨#[]⟩ : ByteArray), .int .i64 0, .bool false] 96 (0, 0)) zz36 hb); have n3_ := Aside0.mk (below_step zz7 hb); clear BK196; clear BK197; clear HB; have HO200 := n0_; have BK196 := n1_; have BK197 := n2_; have HB := n3_; clear n0_ n1_ n2_ n3_; clear hb ho53; have hcv54 := own_string (P := Try.prog) Try.underlying52 Try.underlying5 Try.underlying9 (Kd.own_of_R HO200.out); have hcz55_0 : w52.cell? ⟨gb196, 0, none⟩ = some (.string x197000_29) := (blk_cell BK196.out 0).trans rfl; have hcz55_1 : w52.cell? ⟨gb196, 1, none⟩ = some (.int .i64 (wrap64 (a0_1 - 1))) := (blk_cell BK196.out 1).trans rfl; have hcz55_2 : w52.cell? ⟨gb196, 2, none⟩ = some (.bool false) := (blk_cell BK196.out 2).trans rfl; have hfz55_0 := blk_frozen BK196.out 0; have hfz55_1 := blk_frozen BK196.out 1; have hfz55_2 := blk_frozen BK196.out 2) | ((with_reducible refine gate_callee (f := 105) rfl ?_); refine goesL_ (some 44) rfl rfl Try.func105 zz12 rfl #[.string (x197000_29 ++ (strOfNums y198))] rfl zz5 ?_; (with_reducible refine (when_may.calls kj29 (x197000_29 ++ (strOfNums y198)) true _ A38.out).mono ?_); rintro e w' ⟨rfl, ⟨nd, rfl⟩⟩; refine ⟨_, rfl, ?_⟩) | (go_at_call 106; (with_reducible refine (when_late.calls kj29 (x197000_29 ++ (strOfNums y198)) true _ A48.out).mono ?_); rintro e w' ⟨rfl, ⟨nd, rfl⟩⟩; have hcz56_0 : w52.cell? ⟨gb197, 0, none⟩ = some (.string (⟨#[]⟩ : ByteArray)) := (blk_cell BK197.out 0).trans rfl; have hcz56_1 : w52.cell? ⟨gb197, 1, none⟩ = some (.int .i64 0) := (blk_cell BK197.out 1).trans rfl; have hcz56_2 : w52.cell? ⟨gb197, 2, none⟩ = some (.bool false) := (blk_cell BK197.out 2).trans rfl; have hfz56_0 := blk_frozen BK197.out 0; have hfz56_1 := blk_frozen BK197.out 1; have hfz56_2 := blk_frozen BK197.out 2))
                refine bodyPost_ret (results_ct rfl _ _ gb197 96 #[.string (x197000_29 ++ (strOfNums y198)), .int .i64 (wrap64 (a0_1 - 1)), .bool false] (0, 0) _ rfl (by (with_reducible repeat (first | refine blk_drewN ?_ _ | refine blk_drew ?_ | refine blk_alloc ?_ _)); refine blk_put (cs := #[.string (x197000_29 ++ (strOfNums y198)), .int .i64 (wrap64 (a0_1 - 1)), .bool false]) ?_ 2 _ rfl; (with_reducible repeat (first | refine blk_drewN ?_ _ | refine blk_drew ?_ | refine blk_alloc ?_ _)); refine blk_put (cs := #[.string (x197000_29 ++ (strOfNums y198)), .int .i64 0, .bool false]) ?_ 1 _ rfl; (with_reducible repeat (first | refine blk_drewN ?_ _ | refine blk_drew ?_ | refine blk_alloc ?_ _)); refine blk_put (cs := #[.string (⟨#[]⟩ : ByteArray), .int .i64 0, .bool false]) ?_ 0 _ rfl; (with_reducible repeat (first | refine blk_drewN ?_ _ | refine blk_drew ?_ | refine blk_alloc ?_ _)); refine blk_far ?_ NB197_196.out _; (with_reducible repeat (first | refine blk_drewN ?_ _ | refine blk_drew ?_ | refine blk_alloc ?_ _)); exact BK197.out) Try.underlying96 rfl zz12) rfl ?_
                exact ⟨zz6, zz7⟩
               ·
                replace c49 := Bool.eq_false_iff.mpr c49
                subst c49
                rw [if_neg (show ¬ (false = true) by decide)] at H
                simp only [Option.some.injEq, Prod.mk.injEq] at H
                obtain ⟨rfl, rfl, rfl, rfl⟩ := H
                have hnb57 := NB196_197.out
                have hnc57 := NB197_196.out
                have hcz58_0 : wc.cell? ⟨gb196, 0, none⟩ = some (.string x197000_29) := (blk_cell BK196.out 0).trans rfl
                have hcz58_1 : wc.cell? ⟨gb196, 1, none⟩ = some (.int .i64 (wrap64 (a0_1 - 1))) := (blk_cell BK196.out 1).trans rfl
                have hcz58_2 : wc.cell? ⟨gb196, 2, none⟩ = some (.bool false) := (blk_cell BK196.out 2).trans rfl
                have hfz58_0 := blk_frozen BK196.out 0
                have hfz58_1 := blk_frozen BK196.out 1
                have hfz58_2 := blk_frozen BK196.out 2
                go_wp2_with (first | ((with_reducible refine gate_dst (N := 38) rfl ?_); refine Kd.R_lit (Kd.int .u8) _ 5 ?hg (N := 38) ?hd (xs := ([a1] : List Int)) (inner := [.int .u8 a1]) (ok := fun _ => True) (okp := fun _ => True) ?hr ?hp (fun _ hk => hk) trivial (Below.refl _ _) (Nat.le_refl _) zz30 ?_; (case hd => rfl); (case hg => rfl); (case hr => first | (go_simp; done) | (go_simp; rfl)); (case hp => exact (Reps.one (show Kd.M (Kd.int .u8) _ _ _ a1 [.int .u8 a1] from rfl) (Reps.none _ _))); intro v199 w59 ho60 hb hg_ hnew_; clear hg_ hnew_; (first | rw [← Ny198.out] at ho60 | (simp only [Int.reduceToNat] at ho60; rw [← Ny198.out] at ho60)); have n0_ := Aside0.mk (Kd.R_lower ho60 (below_size zz7)); have n1_ := Aside0.mk (blk_below (g := gb196) (o := .cells #[.string x197000_29, .int .i64 (wrap64 (a0_1 - 1)), .bool false] 96 (0, 0)) zz20 hb); have n2_ := Aside0.mk (blk_below (g := gb197) (o := .cells #[.string (⟨#[]⟩ : ByteArray), .int .i64 0, .bool false] 96 (0, 0)) zz36 hb); have n3_ := Aside0.mk (below_step zz7 hb); clear BK196; clear BK197; clear HB; have HO200 := n0_; have BK196 := n1_; have BK197 := n2_; have HB := n3_; clear n0_ n1_ n2_ n3_; clear hb ho60; have hcv61 := own_string (P := Try.prog) Try.underlying52 Try.underlying5 Try.underlying9 (Kd.own_of_R HO200.out); have hcz62_0 : w59.cell? ⟨gb196, 0, none⟩ = some (.string x197000_29) := (blk_cell BK196.out 0).trans rfl; have hcz62_1 : w59.cell? ⟨gb196, 1, none⟩ = some (.int .i64 (wrap64 (a0_1 - 1))) := (blk_cell BK196.out 1).trans rfl; have hcz62_2 : w59.cell? ⟨gb196, 2, none⟩ = some (.bool false) := (blk_cell BK196.out 2).trans rfl; have hfz62_0 := blk_frozen BK196.out 0; have hfz62_1 := blk_frozen BK196.out 1; have hfz62_2 := blk_frozen BK196.out 2) | ((with_reducible refine gate_callee (f := 105) rfl ?_); refine goesL_ (some 44) rfl rfl Try.func105 zz12 rfl #[.string (x197000_29 ++ (strOfNums y198))] rfl zz5 ?_; (with_reducible refine (when_may.calls kj29 (x197000_29 ++ (strOfNums y198)) true _ A38.out).mono ?_); rintro e w' ⟨rfl, ⟨nd, rfl⟩⟩; refine ⟨_, rfl, ?_⟩) | (go_at_call 106; (with_reducible refine (when_late.calls kj29 (x197000_29 ++ (strOfNums y198)) false _ A48.out).mono ?_); rintro e w' ⟨rfl, ⟨nd, rfl⟩⟩; have hcz63_0 : w59.cell? ⟨gb197, 0, none⟩ = some (.string (⟨#[]⟩ : ByteArray)) := (blk_cell BK197.out 0).trans rfl; have hcz63_1 : w59.cell? ⟨gb197, 1, none⟩ = some (.int .i64 0) := (blk_cell BK197.out 1).trans rfl; have hcz63_2 : w59.cell? ⟨gb197, 2, none⟩ = some (.bool false) := (blk_cell BK197.out 2).trans rfl; have hfz63_0 := blk_frozen BK197.out 0; have hfz63_1 := blk_frozen BK197.out 1; have hfz63_2 := blk_frozen BK197.out 2))
                refine bodyPost_ret (results_ct rfl _ _ gb197 96 #[.string (⟨#[]⟩ : ByteArray), .int .i64 0, .bool false] (0, 0) _ rfl zz21 Try.underlying96 rfl zz12) rfl ?_
                exact ⟨zz6, zz7⟩
             ·
              replace c39 := Bool.eq_false_iff.mpr c39
              subst c39
              rw [if_neg (show ¬ (false = true) by decide)] at H
              simp only [Option.some.injEq, Prod.mk.injEq] at H
              obtain ⟨rfl, rfl, rfl, rfl⟩ := H
              have hnb64 := NB196_197.out
              have hnc64 := NB197_196.out
              have hcz65_0 : wc.cell? ⟨gb196, 0, none⟩ = some (.string x197000_29) := (blk_cell BK196.out 0).trans rfl
              have hcz65_1 : wc.cell? ⟨gb196, 1, none⟩ = some (.int .i64 (wrap64 (a0_1 - 1))) := (blk_cell BK196.out 1).trans rfl
              have hcz65_2 : wc.cell? ⟨gb196, 2, none⟩ = some (.bool a0_2) := (blk_cell BK196.out 2).trans rfl
              have hfz65_0 := blk_frozen BK196.out 0
              have hfz65_1 := blk_frozen BK196.out 1
              have hfz65_2 := blk_frozen BK196.out 2
              go_wp2_with (first | ((with_reducible refine gate_dst (N := 38) rfl ?_); refine Kd.R_lit (Kd.int .u8) _ 5 ?hg (N := 38) ?hd (xs := ([a1] : List Int)) (inner := [.int .u8 a1]) (ok := fun _ => True) (okp := fun _ => True) ?hr ?hp (fun _ hk => hk) trivial (Below.refl _ _) (Nat.le_refl _) zz30 ?_; (case hd => rfl); (case hg => rfl); (case hr => first | (go_simp; done) | (go_simp; rfl)); (case hp => exact (Reps.one (show Kd.M (Kd.int .u8) _ _ _ a1 [.int .u8 a1] from rfl) (Reps.none _ _))); intro v199 w66 ho67 hb hg_ hnew_; clear hg_ hnew_; (first | rw [← Ny198.out] at ho67 | (simp only [Int.reduceToNat] at ho67; rw [← Ny198.out] at ho67)); have n0_ := Aside0.mk (Kd.R_lower ho67 (below_size zz7)); have n1_ := Aside0.mk (blk_below (g := gb196) (o := .cells #[.string x197000_29, .int .i64 (wrap64 (a0_1 - 1)), .bool a0_2] 96 (0, 0)) zz20 hb); have n2_ := Aside0.mk (blk_below (g := gb197) (o := .cells #[.string (⟨#[]⟩ : ByteArray), .int .i64 0, .bool false] 96 (0, 0)) zz36 hb); have n3_ := Aside0.mk (below_step zz7 hb); clear BK196; clear BK197; clear HB; have HO200 := n0_; have BK196 := n1_; have BK197 := n2_; have HB := n3_; clear n0_ n1_ n2_ n3_; clear hb ho67; have hcv68 := own_string (P := Try.prog) Try.underlying52 Try.underlying5 Try.underlying9 (Kd.own_of_R HO200.out); have hcz69_0 : w66.cell? ⟨gb196, 0, none⟩ = some (.string x197000_29) := (blk_cell BK196.out 0).trans rfl; have hcz69_1 : w66.cell? ⟨gb196, 1, none⟩ = some (.int .i64 (wrap64 (a0_1 - 1))) := (blk_cell BK196.out 1).trans rfl; have hcz69_2 : w66.cell? ⟨gb196, 2, none⟩ = some (.bool a0_2) := (blk_cell BK196.out 2).trans rfl; have hfz69_0 := blk_frozen BK196.out 0; have hfz69_1 := blk_frozen BK196.out 1; have hfz69_2 := blk_frozen BK196.out 2) | ((with_reducible refine gate_callee (f := 105) rfl ?_); refine goesL_ (some 44) rfl rfl Try.func105 zz12 rfl #[.string (x197000_29 ++ (strOfNums y198))] rfl zz5 ?_; (with_reducible refine (when_may.calls kj29 (x197000_29 ++ (strOfNums y198)) false _ A38.out).mono ?_); rintro e w' ⟨rfl, ⟨nd, rfl⟩⟩; refine ⟨_, rfl, ?_⟩; have hcz70_0 : w66.cell? ⟨gb197, 0, none⟩ = some (.string (⟨#[]⟩ : ByteArray)) := (blk_cell BK197.out 0).trans rfl; have hcz70_1 : w66.cell? ⟨gb197, 1, none⟩ = some (.int .i64 0) := (blk_cell BK197.out 1).trans rfl; have hcz70_2 : w66.cell? ⟨gb197, 2, none⟩ = some (.bool false) := (blk_cell BK197.out 2).trans rfl; have hfz70_0 := blk_frozen BK197.out 0; have hfz70_1 := blk_frozen BK197.out 1; have hfz70_2 := blk_frozen BK197.out 2))
              refine bodyPost_ret (results_ct rfl _ _ gb197 96 #[.string (⟨#[]⟩ : ByteArray), .int .i64 0, .bool false] (0, 0) _ rfl zz21 Try.underlying96 rfl zz12) rfl ?_
              exact ⟨zz6, zz7⟩
            ·
             rw [if_neg c37] at H
             exact absurd H zz30
end Go.Proofs.Ytpfconocipmcjaa.PC
