/- What the row of GrammarFront stands on, made small by a program of this session (pack.py). -/
import Derived.Test.YtcfommconnlhgaaCGrammarFront2
import Derived.Test.YtcfommconnlhgaaCGrammarFront4
import Derived.Test.YtcfommconnlhgaaCGrammarFront5
namespace Go.Proofs.Ytcfommconnlhgaa.PC
open Own Sl
open RowKit YtcfommconnlhgaaW.PrintWords YtcfommconnlhgaaW.PrintLast YtcfommconnlhgaaW.PrintMore
attribute [local go_sem] max2_int min2_int max_two min_two max_three min_three max_four min_four
set_option linter.unusedVariables false
set_option linter.unusedSimpArgs false
def oid_Start.f (a0 : Int) : Option (Int × Bool × Bool) := if a0 < 1 then (some (0, false, false)) else (some (a0, false, true))
set_option maxHeartbeats 8000000 in
set_option maxRecDepth 100000 in
theorem oid_Start.calls (a0 : Int) (r1 : Int) (r2 : Bool) (r3 : Bool) (w : World) (h : oid_Start.f a0 = some (r1, r2, r3)) :
 Calls Try.prog 77 #[.int .i64 a0] w fun e w' => e = .returned (.tuple #[.agg #[.int .i64 r1, .bool r2], .bool r3]) ∧ Below w.heap.size w w' := by
 have hS := Sp.nil (w := w) (S := None0)
 have hu := Try.underlying156
 unfold oid_Start.f at h
 cases c1 : decide (a0 < 1)
 all_goals
  have d1 := c1
  simp only [decide_eq_true_eq, decide_eq_false_iff_not] at d1
  simp only [d1, if_true, if_false, Option.some.injEq, Prod.mk.injEq, reduceIte] at h
  obtain ⟨rfl, rfl, rfl⟩ := h
  clear d1
  go_enter Try.func77, Try.ntmps77
  go_wp2_with (first
   | ((with_reducible refine gate_dst (N := 2) rfl ?_)
      refine sp_box hS rfl (N := 2) rfl _ 156 zz1 ?_
      intro g2 w2 hg2 hS)
   | ((with_reducible refine gate_store (t := 156) (p := 2) (v := .tmp 6) rfl ?_)
      refine sp_row hS 0 rfl 156 (.tmp 2) (.tmp 6) rfl rfl g2 _ rfl rfl 156 _ rfl zz5 rfl zz16 rfl ?_
      intro w6 hS)
   | ((with_reducible refine gate_store (t := 156) (p := 2) (v := .tmp 8) rfl ?_)
      refine sp_row hS 0 rfl 156 (.tmp 2) (.tmp 8) rfl rfl g2 _ rfl rfl 156 _ rfl zz5 rfl zz16 rfl ?_
      intro w8 hS))
  refine bodyPost_ret (results_ct rfl _ _ g2 156 _ (0, 0) _ rfl (hS.blk 0) Try.underlying156 rfl zz5) rfl ?_
  exact ⟨by first | rfl | simp, (Sp.u zz25).below0⟩
def oid_State_Push.f (a0_0 : Int) (a0_1 : Bool) (a1 : Int) : Option (Int × Bool × Bool) := if a0_1 = true then (if (wrap64 (a0_0 - 1)) = 0 then (if a1 ≥ 128 then (some (0, false, false)) else (some (wrap64 (a0_0 - 1), false, true))) else (some (wrap64 (a0_0 - 1), decide (a1 ≥ 128), true))) else (if a1 = 128 then (some (0, false, false)) else (if (wrap64 (a0_0 - 1)) = 0 then (if a1 ≥ 128 then (some (0, false, false)) else (some (wrap64 (a0_0 - 1), false, true))) else (some (wrap64 (a0_0 - 1), decide (a1 ≥ 128), true))))
set_option maxHeartbeats 8000000 in
set_option maxRecDepth 100000 in
theorem oid_State_Push.calls (a0_0 : Int) (a0_1 : Bool) (a1 : Int) (r1 : Int) (r2 : Bool) (r3 : Bool) (w : World) (h : oid_State_Push.f a0_0 a0_1 a1 = some (r1, r2, r3)) :
 Calls Try.prog 115 #[.agg #[.int .i64 a0_0, .bool a0_1], .int .u8 a1] w fun e w' => e = .returned (.tuple #[.agg #[.int .i64 r1, .bool r2], .bool r3]) ∧ Below w.heap.size w w' := by
 have hS := Sp.nil (w := w) (S := None0)
 have hu := Try.underlying156
 obtain ⟨x, hx⟩ : ∃ x, wrap64 (a0_0 - 1) = x := ⟨_, rfl⟩
 have hx2 : IntKind.i64.wrap (a0_0 - 1) = x := by rw [← hx]; exact i64_w _
 unfold oid_State_Push.f at h
 rw [hx] at h
 cases a0_1 <;> cases c4 : (x == 0) <;> cases c5 : decide (128 ≤ a1) <;> cases c6 : (a1 == 128)
 all_goals
  have d4 := c4
  have d5 := c5
  have d6 := c6
  simp only [beq_iff_eq, beq_eq_false_iff_ne, decide_eq_true_eq, decide_eq_false_iff_not, ne_eq] at d4 d5 d6
  try (exfalso; omega)
 all_goals
  first | have e4 := eq_true (show x = 0 from d4) | have e4 := eq_false (show ¬ x = 0 from d4)
  simp only [e4, d5, d6, ge_iff_le, if_true, if_false, Bool.false_eq_true, decide_true, decide_false, Option.some.injEq, Prod.mk.injEq, reduceIte] at h
  obtain ⟨rfl, rfl, rfl⟩ := h
  clear hx d4 d5 d6 e4
  go_enter Try.func115, Try.ntmps115
  go_wp2_with (first
   | ((with_reducible refine gate_dst (N := 2) rfl ?_)
      refine sp_box hS rfl (N := 2) rfl _ 156 zz1 ?_
      intro g2 w1 hg2 hS)
   | ((with_reducible refine gate_dst (N := 4) rfl ?_)
      refine sp_box hS rfl (N := 4) rfl _ 156 zz1 ?_
      intro g4 w2 hg4 hS
      obtain ⟨j0, j1⟩ := hS.cells2 1)
   | ((with_reducible refine gate_store (t := 3) (p := 9) (v := .tmp 8) rfl ?_)
      refine sp_cell hS 1 rfl 3 (.tmp 9) (.tmp 8) rfl rfl g2 0 (.int .i64 x) rfl rfl 156 _ _ rfl zz5 zz19 rfl rfl rfl ?_
      clear j0 j1
      intro w3 hS
      obtain ⟨j0, j1⟩ := hS.cells2 1)
   | ((with_reducible refine gate_store (t := 4) (p := 29) (v := .tmp 28) rfl ?_)
      first
      | refine sp_cell hS 1 rfl 4 (.tmp 29) (.tmp 28) rfl rfl g2 1 (.bool true) rfl rfl 156 _ _ rfl zz5 zz19 rfl rfl rfl ?_
      | refine sp_cell hS 1 rfl 4 (.tmp 29) (.tmp 28) rfl rfl g2 1 (.bool false) rfl rfl 156 _ _ rfl zz5 zz19 rfl rfl rfl ?_
      clear j0 j1
      intro w4 hS
      obtain ⟨j0, j1⟩ := hS.cells2 1)
   | ((with_reducible refine gate_store (t := 156) (p := 4) (v := .tmp 26) rfl ?_)
      refine sp_row hS 0 rfl 156 (.tmp 4) (.tmp 26) rfl rfl g4 _ rfl rfl 156 _ rfl zz5 rfl zz16 rfl ?_
      intro w5 hS)
   | ((with_reducible refine gate_store (t := 156) (p := 4) (v := .tmp 30) rfl ?_)
      refine sp_row hS 0 rfl 156 (.tmp 4) (.tmp 30) rfl rfl g4 _ rfl rfl 156 _ rfl zz5 rfl zz16 rfl ?_
      intro w5 hS))
  refine bodyPost_ret (results_ct rfl _ _ g4 156 _ (0, 0) _ rfl (hS.blk 0) Try.underlying156 rfl zz5) rfl ?_
  exact ⟨zz19, (Sp.u zz25).below0⟩
def bitstr_Start.f (a0 : Int) : Option (Int × Bool × Int × Bool) := if a0 < 1 then (some (0, false, 0, false)) else (some (a0, false, 0, true))
set_option maxHeartbeats 8000000 in
set_option maxRecDepth 100000 in
theorem bitstr_Start.calls (a0 : Int) (r1 : Int) (r2 : Bool) (r3 : Int) (r4 : Bool) (w : World) (h : bitstr_Start.f a0 = some (r1, r2, r3, r4)) :
 Calls Try.prog 79 #[.int .i64 a0] w fun e w' => e = .returned (.tuple #[.agg #[.int .i64 r1, .bool r2, .int .u8 r3], .bool r4]) ∧ Below w.heap.size w w' := by
 have hS := Sp.nil (w := w) (S := None0)
 have hu := Try.underlying161
 unfold bitstr_Start.f at h
 cases c1 : decide (a0 < 1)
 all_goals
  have d1 := c1
  simp only [decide_eq_true_eq, decide_eq_false_iff_not] at d1
  simp only [d1, if_true, if_false, Option.some.injEq, Prod.mk.injEq, reduceIte] at h
  obtain ⟨rfl, rfl, rfl, rfl⟩ := h
  clear d1
  go_enter Try.func79, Try.ntmps79
  go_wp2_with (first
   | ((with_reducible refine gate_dst (N := 2) rfl ?_)
      refine sp_box hS rfl (N := 2) rfl _ 161 zz1 ?_
      intro g2 w2 hg2 hS)
   | ((with_reducible refine gate_store (t := 161) (p := 2) (v := .tmp 6) rfl ?_)
      refine sp_row hS 0 rfl 161 (.tmp 2) (.tmp 6) rfl rfl g2 _ rfl rfl 161 _ rfl zz5 rfl zz16 rfl ?_
      intro w6 hS)
   | ((with_reducible refine gate_store (t := 161) (p := 2) (v := .tmp 8) rfl ?_)
      refine sp_row hS 0 rfl 161 (.tmp 2) (.tmp 8) rfl rfl g2 _ rfl rfl 161 _ rfl zz5 rfl zz16 rfl ?_
      intro w8 hS))
  refine bodyPost_ret (results_ct rfl _ _ g2 161 _ (0, 0) _ rfl (hS.blk 0) Try.underlying161 rfl zz5) rfl ?_
  exact ⟨by first | rfl | simp, (Sp.u zz25).below0⟩
def bitstr_State_Push.f (a0_0 : Int) (a0_1 : Bool) (a0_2 : Int) (a1 : Int) : Option (Int × Bool × Int × Bool) := if a0_1 = true then (if (wrap64 (a0_0 - 1)) = 0 then (if 0 ≤ a0_2 then (if (Go.bits .and .u8 a1 (((shl .u8 1 a0_2) - 1) % 256)) = 0 then (some (wrap64 (a0_0 - 1), a0_1, a0_2, true)) else (some (0, false, 0, false))) else (none)) else (some (wrap64 (a0_0 - 1), a0_1, a0_2, true))) else (if a1 > 7 then (some (0, false, 0, false)) else (if a1 > 0 then (if (wrap64 (a0_0 - 1)) = 0 then (some (0, false, 0, false)) else (some (wrap64 (a0_0 - 1), true, a1, true))) else (some (wrap64 (a0_0 - 1), true, a1, true))))
set_option maxHeartbeats 8000000 in
set_option maxRecDepth 100000 in
theorem bitstr_State_Push.calls (a0_0 : Int) (a0_1 : Bool) (a0_2 : Int) (a1 : Int) (r1 : Int) (r2 : Bool) (r3 : Int) (r4 : Bool) (w : World) (h : bitstr_State_Push.f a0_0 a0_1 a0_2 a1 = some (r1, r2, r3, r4)) :
 Calls Try.prog 116 #[.agg #[.int .i64 a0_0, .bool a0_1, .int .u8 a0_2], .int .u8 a1] w fun e w' => e = .returned (.tuple #[.agg #[.int .i64 r1, .bool r2, .int .u8 r3], .bool r4]) ∧ Below w.heap.size w w' := by
 have hS := Sp.nil (w := w) (S := None0)
 have hu := Try.underlying161
 obtain ⟨x, hx⟩ : ∃ x, wrap64 (a0_0 - 1) = x := ⟨_, rfl⟩
 have hx2 : IntKind.i64.wrap (a0_0 - 1) = x := by rw [← hx]; exact i64_w _
 unfold bitstr_State_Push.f at h
 rw [hx] at h
 obtain ⟨z, hz⟩ : ∃ z, shl .u8 1 a0_2 = z := ⟨_, rfl⟩
 rw [hz] at h
 have hz_ : (IntKind.u8.wrap (1 * 2 ^ min a0_2.toNat 8)) = z := hz
 have hzz : a0_2 ≤ 8 → (IntKind.u8.wrap (1 * 2 ^ a0_2.toNat)) = z := shl_small hz
 have hzu : (IntKind.u8.wrap (2 ^ min a0_2.toNat 8)) = z := by have h_ := hz_; rw [Int.one_mul] at h_; exact h_
 have hzv : a0_2 ≤ 8 → (IntKind.u8.wrap (2 ^ a0_2.toNat)) = z := fun hle_ => by have h_ := hzz hle_; rw [Int.one_mul] at h_; exact h_
 obtain ⟨y, hy⟩ : ∃ y, Go.bits .and .u8 a1 ((z - 1) % 256) = y := ⟨_, rfl⟩
 rw [hy] at h
 cases a0_1
 ·
  cases c4 : (x == 0) <;> cases c5 : decide (7 < a1) <;> cases c6 : decide (0 < a1)
  all_goals
   have d4 := c4
   have d5 := c5
   have d6 := c6
   simp only [beq_iff_eq, beq_eq_false_iff_ne, decide_eq_true_eq, decide_eq_false_iff_not, ne_eq] at d4 d5 d6
   try (exfalso; omega)
  all_goals
   first | have e4 := eq_true (show x = 0 from d4) | have e4 := eq_false (show ¬ x = 0 from d4)
   simp only [e4, d5, d6, gt_iff_lt, if_true, if_false, Bool.false_eq_true, Option.some.injEq, Prod.mk.injEq, reduceIte] at h
   obtain ⟨rfl, rfl, rfl, rfl⟩ := h
   clear hx d4 d5 d6 e4 hz hz_ hzz hzu hzv hy
   go_enter Try.func116, Try.ntmps116
   go_wp2_with (first
    | ((with_reducible refine gate_dst (N := 2) rfl ?_)
       refine sp_box hS rfl (N := 2) rfl _ 161 zz1 ?_
       intro g2 w1 hg2 hS)
    | ((with_reducible refine gate_dst (N := 4) rfl ?_)
       refine sp_box hS rfl (N := 4) rfl _ 161 zz1 ?_
       intro g4 w2 hg4 hS
       obtain ⟨j0, j1, j2⟩ := hS.cells3 1)
    | ((with_reducible refine gate_store (t := 3) (p := 9) (v := .tmp 8) rfl ?_)
       refine sp_cell hS 1 rfl 3 (.tmp 9) (.tmp 8) rfl rfl g2 0 (.int .i64 x) rfl rfl 161 _ _ rfl zz5 zz19 rfl rfl rfl ?_
       clear j0 j1 j2
       intro w3 hS
       obtain ⟨j0, j1, j2⟩ := hS.cells3 1)
    | ((with_reducible refine gate_store (t := 4) (p := 27) (v := .const (.bool true)) rfl ?_)
       refine sp_cell hS 1 rfl 4 (.tmp 27) (.const (.bool true)) rfl rfl g2 1 (.bool true) rfl rfl 161 _ _ rfl zz5 zz19 rfl rfl rfl ?_
       clear j0 j1 j2
       intro w4 hS
       obtain ⟨j0, j1, j2⟩ := hS.cells3 1)
    | ((with_reducible refine gate_store (t := 5) (p := 28) (v := .tmp 26) rfl ?_)
       refine sp_cell hS 1 rfl 5 (.tmp 28) (.tmp 26) rfl rfl g2 2 (.int .u8 a1) rfl rfl 161 _ _ rfl zz5 zz19 rfl rfl rfl ?_
       clear j0 j1 j2
       intro w4 hS
       obtain ⟨j0, j1, j2⟩ := hS.cells3 1)
    | ((with_reducible refine gate_store (t := 161) (p := 4) (v := .tmp 25) rfl ?_)
       refine sp_row hS 0 rfl 161 (.tmp 4) (.tmp 25) rfl rfl g4 _ rfl rfl 161 _ rfl zz5 rfl zz16 rfl ?_
       intro w5 hS)
    | ((with_reducible refine gate_store (t := 161) (p := 4) (v := .tmp 42) rfl ?_)
       refine sp_row hS 0 rfl 161 (.tmp 4) (.tmp 42) rfl rfl g4 _ rfl rfl 161 _ rfl zz5 rfl zz16 rfl ?_
       intro w5 hS)
    | ((with_reducible refine gate_store (t := 161) (p := 4) (v := .tmp 43) rfl ?_)
       refine sp_row hS 0 rfl 161 (.tmp 4) (.tmp 43) rfl rfl g4 _ rfl rfl 161 _ rfl zz5 rfl zz16 rfl ?_
       intro w5 hS))
   refine bodyPost_ret (results_ct rfl _ _ g4 161 _ (0, 0) _ rfl (hS.blk 0) Try.underlying161 rfl zz5) rfl ?_
   exact ⟨zz19, (Sp.u zz25).below0⟩
 ·
  by_cases c7 : 0 ≤ a0_2
  ·
   cases c4 : (x == 0) <;> cases c5 : (y == 0)
   all_goals
    have d4 := c4
    have d5 := c5
    simp only [beq_iff_eq, beq_eq_false_iff_ne, ne_eq] at d4 d5
    first | have e4 := eq_true (show x = 0 from d4) | have e4 := eq_false (show ¬ x = 0 from d4)
    simp only [e4, d5, c7, if_true, if_false, Option.some.injEq, Prod.mk.injEq, reduceIte] at h
    obtain ⟨rfl, rfl, rfl, rfl⟩ := h
    have e7 := eq_true c7
    have e8 : decide (0 ≤ a0_2) = true := decide_eq_true c7
    clear hx d4 d5 e4 hz c7
    go_enter Try.func116, Try.ntmps116
    go_wp2_with (first
     | ((with_reducible refine gate_dst (N := 2) rfl ?_)
        refine sp_box hS rfl (N := 2) rfl _ 161 zz1 ?_
        intro g2 w1 hg2 hS)
     | ((with_reducible refine gate_dst (N := 4) rfl ?_)
        refine sp_box hS rfl (N := 4) rfl _ 161 zz1 ?_
        intro g4 w2 hg4 hS
        obtain ⟨j0, j1, j2⟩ := hS.cells3 1)
     | ((with_reducible refine gate_store (t := 3) (p := 9) (v := .tmp 8) rfl ?_)
        refine sp_cell hS 1 rfl 3 (.tmp 9) (.tmp 8) rfl rfl g2 0 (.int .i64 x) rfl rfl 161 _ _ rfl zz5 zz19 rfl rfl rfl ?_
        clear j0 j1 j2
        intro w3 hS
        obtain ⟨j0, j1, j2⟩ := hS.cells3 1)
     | ((with_reducible refine gate_store (t := 4) (p := 27) (v := .const (.bool true)) rfl ?_)
        refine sp_cell hS 1 rfl 4 (.tmp 27) (.const (.bool true)) rfl rfl g2 1 (.bool true) rfl rfl 161 _ _ rfl zz5 zz19 rfl rfl rfl ?_
        clear j0 j1 j2
        intro w4 hS
        obtain ⟨j0, j1, j2⟩ := hS.cells3 1)
     | ((with_reducible refine gate_store (t := 5) (p := 28) (v := .tmp 26) rfl ?_)
        refine sp_cell hS 1 rfl 5 (.tmp 28) (.tmp 26) rfl rfl g2 2 (.int .u8 a1) rfl rfl 161 _ _ rfl zz5 zz19 rfl rfl rfl ?_
        clear j0 j1 j2
        intro w4 hS
        obtain ⟨j0, j1, j2⟩ := hS.cells3 1)
     | ((with_reducible refine gate_store (t := 161) (p := 4) (v := .tmp 25) rfl ?_)
        refine sp_row hS 0 rfl 161 (.tmp 4) (.tmp 25) rfl rfl g4 _ rfl rfl 161 _ rfl zz5 rfl zz16 rfl ?_
        intro w5 hS)
     | ((with_reducible refine gate_store (t := 161) (p := 4) (v := .tmp 42) rfl ?_)
        refine sp_row hS 0 rfl 161 (.tmp 4) (.tmp 42) rfl rfl g4 _ rfl rfl 161 _ rfl zz5 rfl zz16 rfl ?_
        intro w5 hS)
     | ((with_reducible refine gate_store (t := 161) (p := 4) (v := .tmp 43) rfl ?_)
        refine sp_row hS 0 rfl 161 (.tmp 4) (.tmp 43) rfl rfl g4 _ rfl rfl 161 _ rfl zz5 rfl zz16 rfl ?_
        intro w5 hS))
    refine bodyPost_ret (results_ct rfl _ _ g4 161 _ (0, 0) _ rfl (hS.blk 0) Try.underlying161 rfl zz5) rfl ?_
    exact ⟨zz19, (Sp.u zz25).below0⟩
  ·
   cases c4 : (x == 0)
   ·
    have d4 := c4
    simp only [beq_eq_false_iff_ne, ne_eq] at d4
    have e4 := eq_false (show ¬ x = 0 from d4)
    simp only [e4, if_true, if_false, Option.some.injEq, Prod.mk.injEq, reduceIte] at h
    obtain ⟨rfl, rfl, rfl, rfl⟩ := h
    clear hx d4 e4 hz c7
    go_enter Try.func116, Try.ntmps116
    go_wp2_with (first
     | ((with_reducible refine gate_dst (N := 2) rfl ?_)
        refine sp_box hS rfl (N := 2) rfl _ 161 zz1 ?_
        intro g2 w1 hg2 hS)
     | ((with_reducible refine gate_dst (N := 4) rfl ?_)
        refine sp_box hS rfl (N := 4) rfl _ 161 zz1 ?_
        intro g4 w2 hg4 hS
        obtain ⟨j0, j1, j2⟩ := hS.cells3 1)
     | ((with_reducible refine gate_store (t := 3) (p := 9) (v := .tmp 8) rfl ?_)
        refine sp_cell hS 1 rfl 3 (.tmp 9) (.tmp 8) rfl rfl g2 0 (.int .i64 x) rfl rfl 161 _ _ rfl zz5 zz19 rfl rfl rfl ?_
        clear j0 j1 j2
        intro w3 hS
        obtain ⟨j0, j1, j2⟩ := hS.cells3 1)
     | ((with_reducible refine gate_store (t := 4) (p := 27) (v := .const (.bool true)) rfl ?_)
        refine sp_cell hS 1 rfl 4 (.tmp 27) (.const (.bool true)) rfl rfl g2 1 (.bool true) rfl rfl 161 _ _ rfl zz5 zz19 rfl rfl rfl ?_
        clear j0 j1 j2
        intro w4 hS
        obtain ⟨j0, j1, j2⟩ := hS.cells3 1)
     | ((with_reducible refine gate_store (t := 5) (p := 28) (v := .tmp 26) rfl ?_)
        refine sp_cell hS 1 rfl 5 (.tmp 28) (.tmp 26) rfl rfl g2 2 (.int .u8 a1) rfl rfl 161 _ _ rfl zz5 zz19 rfl rfl rfl ?_
        clear j0 j1 j2
        intro w4 hS
        obtain ⟨j0, j1, j2⟩ := hS.cells3 1)
     | ((with_reducible refine gate_store (t := 161) (p := 4) (v := .tmp 25) rfl ?_)
        refine sp_row hS 0 rfl 161 (.tmp 4) (.tmp 25) rfl rfl g4 _ rfl rfl 161 _ rfl zz5 rfl zz16 rfl ?_
        intro w5 hS)
     | ((with_reducible refine gate_store (t := 161) (p := 4) (v := .tmp 42) rfl ?_)
        refine sp_row hS 0 rfl 161 (.tmp 4) (.tmp 42) rfl rfl g4 _ rfl rfl 161 _ rfl zz5 rfl zz16 rfl ?_
        intro w5 hS)
     | ((with_reducible refine gate_store (t := 161) (p := 4) (v := .tmp 43) rfl ?_)
        refine sp_row hS 0 rfl 161 (.tmp 4) (.tmp 43) rfl rfl g4 _ rfl rfl 161 _ rfl zz5 rfl zz16 rfl ?_
        intro w5 hS))
    refine bodyPost_ret (results_ct rfl _ _ g4 161 _ (0, 0) _ rfl (hS.blk 0) Try.underlying161 rfl zz5) rfl ?_
    exact ⟨zz19, (Sp.u zz25).below0⟩
   ·
    have d4 : x = 0 := beq_iff_eq.1 c4
    rw [if_pos rfl, if_pos d4, if_neg c7] at h
    cases h
def when_Start.f (a0 : Int) (a1 : Int) : Option (ByteArray × Int × Bool × Bool) := if a0 = 23 then (if a1 = 13 then (if a0 = 24 then (if a1 = 15 then (some ((⟨#[]⟩ : ByteArray), a1, true, true)) else (some ((⟨#[]⟩ : ByteArray), 0, false, false))) else (some ((⟨#[]⟩ : ByteArray), a1, true, true))) else (some ((⟨#[]⟩ : ByteArray), 0, false, false))) else (if a0 = 24 then (if a1 = 15 then (some ((⟨#[]⟩ : ByteArray), a1, false, true)) else (some ((⟨#[]⟩ : ByteArray), 0, false, false))) else (some ((⟨#[]⟩ : ByteArray), 0, false, false)))
set_option maxHeartbeats 8000000 in
set_option maxRecDepth 100000 in
theorem when_Start.calls (a0 : Int) (a1 : Int) (r1 : ByteArray) (r2 : Int) (r3 : Bool) (r4 : Bool) (w : World) (h : when_Start.f a0 a1 = some (r1, r2, r3, r4)) :
 Calls Try.prog 81 #[.int .i64 a0, .int .i64 a1] w fun e w' => e = .returned (.tuple #[.agg #[.string r1, .int .i64 r2, .bool r3], .bool r4]) ∧ Below w.heap.size w w' := by
 have hS := Sp.nil (w := w) (S := None0)
 have hu := Try.underlying166
 have eb : ∀ a b : Int, (a = b) = ((a == b) = true) := fun a b => by simp
 unfold when_Start.f at h
 cases c1 : (a0 == 23) <;> cases c2 : (a0 == 24) <;> cases c3 : (a1 == 13) <;> cases c4 : (a1 == 15)
 all_goals
  try (exfalso; simp only [beq_iff_eq, beq_eq_false_iff_ne, ne_eq, decide_eq_true_eq, decide_eq_false_iff_not] at *; omega)
 all_goals
  simp only [eb a0 23, eb a0 24, eb a1 13, eb a1 15, c1, c2, c3, c4, if_true, if_false, Bool.false_eq_true, Option.some.injEq, Prod.mk.injEq, reduceIte] at h
  obtain ⟨rfl, rfl, rfl, rfl⟩ := h
  have n1 : (a0 != 23) = !(a0 == 23) := rfl
  have n2 : (a0 != 24) = !(a0 == 24) := rfl
  have n3 : (a1 != 13) = !(a1 == 13) := rfl
  have n4 : (a1 != 15) = !(a1 == 15) := rfl
  rw [c1] at n1
  rw [c2] at n2
  rw [c3] at n3
  rw [c4] at n4
  simp only [Bool.not_true, Bool.not_false] at n1 n2 n3 n4
  clear eb
  go_enter Try.func81, Try.ntmps81
  go_wp2_with (first
   | ((with_reducible refine gate_dst (N := 4) rfl ?_)
      refine sp_box hS rfl (N := 4) rfl _ 166 zz1 ?_
      intro g4 w4 hg4 hS)
   | ((with_reducible refine gate_store (t := 166) (p := 4) (v := .tmp 28) rfl ?_)
      refine sp_row hS 0 rfl 166 (.tmp 4) (.tmp 28) rfl rfl g4 _ rfl rfl 166 _ rfl zz5 rfl zz16 rfl ?_
      intro w28 hS)
   | ((with_reducible refine gate_store (t := 166) (p := 4) (v := .tmp 32) rfl ?_)
      refine sp_row hS 0 rfl 166 (.tmp 4) (.tmp 32) rfl rfl g4 _ rfl rfl 166 _ rfl zz5 rfl zz16 rfl ?_
      intro w32 hS))
  refine bodyPost_ret (results_ct rfl _ _ g4 166 _ (0, 0) _ rfl (hS.blk 0) Try.underlying166 rfl zz5) rfl ?_
  exact ⟨by first | rfl | simp, (Sp.u zz25).below0⟩
end Go.Proofs.Ytcfommconnlhgaa.PC
namespace Go.Proofs.Ytcfommconnlhgaa.PC
open RowKit YtcfommconnlhgaaW.PrintWords YtcfommconnlhgaaW.PrintLast YtcfommconnlhgaaW.PrintMore
attribute [local go_sem] max2_int min2_int max_two min_two max_three min_three max_four min_four
set_option linter.unusedVariables false
set_option linter.unusedSimpArgs false
def when_number.l0 : Nat → ByteArray → Int → Int → Int → Option (Int)
 | 0, _, _, _, _ => none
 | k + 1, x0, x3, x6, x7 => if x7 < x6 then (if 0 ≤ x7 then (if x7 < (x0.size : Int) then (when_number.l0 k x0 (wrap64 ((wrap64 (10 * x3)) + (((bt x0 x7) - 48) % 256))) x6 (wrap64 (x7 + 1))) else (none)) else (none)) else (some x3)
def when_number.f (k : Nat) (a0 : ByteArray) : Option (Int) := when_number.l0 k a0 0 (a0.size : Int) 0
set_option maxHeartbeats 8000000 in
set_option maxRecDepth 100000 in
theorem when_number.calls (k : Nat) (a0 : ByteArray) (r : Int) (w : World) (h : when_number.f k a0 = some r) :
 Calls Try.prog 121 #[.string a0] w fun e w' => e = .returned (.int .i64 r) ∧ Drawn0 w w' := by
 have H : (when_number.l0 k a0 0 (a0.size : Int) 0) = some r := h
 clear h
 have H' := Aside0.mk H
 clear H
 go_enter Try.func121, Try.ntmps121
 go_wp2
 go_loopg [3, 7] k (fun kq v3 v7 w' => ∃ (x3_1 : Int) (x7_1 : Int), v3 = .int .i64 x3_1 ∧ v7 = .int .i64 x7_1 ∧ Aside0 (when_number.l0 kq a0 x3_1 (a0.size : Int) x7_1 = some r) ∧ Aside0 (kq ≤ k) ∧ Drawn0 w w')
 case atStart => exact ⟨(0), (0), zz0, zz0, H', ⟨Nat.le_refl _⟩, zz6⟩
 case round =>
  clear H'
  obtain ⟨x3_1, x7_1, rfl, rfl, HA, HK1, ⟨m1, rfl⟩⟩ := hrel
  cases gk with
  | zero => exact absurd HA.out (by simp [when_number.l0])
  | succ k1 =>
    have H := HA.out
    clear HA
    simp only [when_number.l0] at H
    by_cases c2 : x7_1 < (a0.size : Int)
    ·
     rw [if_pos c2] at H
     have c2b0 := decide_eq_true c2
     clear c2
     by_cases c3 : 0 ≤ x7_1
     ·
      rw [if_pos c3] at H
      have c3b0 := decide_eq_true c3
      clear c3
      by_cases c4 : x7_1 < (a0.size : Int)
      ·
       rw [if_pos c4] at H
       have c4b0 := decide_eq_true c4
       clear c4
       have H' := Aside0.mk H
       clear H
       have p5 : 0 ≤ (x7_1 : Int) := of_decide_eq_true zz10
       have q5 : x7_1 < (a0.size : Int) := of_decide_eq_true zz10
       have hx5 := bt_at a0 x7_1
       replace p5 := eq_true p5
       replace q5 := eq_true q5
       go_wp2
       go_roundg k1
       case measure => have := HK1.out; omega
       case rel => exact ⟨(wrap64 ((wrap64 (10 * x3_1)) + (((bt a0 x7_1) - 48) % 256))), (wrap64 (x7_1 + 1)), zz0, zz0, H', ⟨by have := HK1.out; omega⟩, zz6⟩
      ·
       rw [if_neg c4] at H
       exact absurd H zz19
     ·
      rw [if_neg c3] at H
      exact absurd H zz19
    ·
     rw [if_neg c2] at H
     have c2b0 := decide_eq_false c2
     clear c2
     obtain rfl := Option.some.inj H
     go_wp2
     go_ret
     exact ⟨zz0, zz6⟩
def when_Days.f (a0 : Int) (a1 : Int) : Option (Int) := some (Days.days a0 a1)
theorem when_Days.calls (a0 : Int) (a1 : Int) (r : Int) (w : World) (h : when_Days.f a0 a1 = some r) :
 Calls Try.prog 122 #[.int .i64 a0, .int .i64 a1] w fun e w' => e = .returned (.int .i64 r) ∧ Drawn0 w w' := by
 unfold when_Days.f at h
 obtain rfl := Option.some.inj h
 exact (Days.days_any a0 a1 w).mono fun e w' ⟨he, hw⟩ => ⟨he, hw ▸ Drawn0.refl w⟩
def when_span.f (k : Nat) (a0 : ByteArray) (a1 : Int) : Option (Int × Int) := if a1 = 4 then (some (1, 12)) else (if a1 = 6 then (if 0 ≤ 4 then (if 4 ≤ (a0.size : Int) then ((when_number.f k (a0.extract 0 4)).bind fun t139 => (if 4 ≤ 6 then (if 6 ≤ (a0.size : Int) then ((when_number.f k (a0.extract 4 6)).bind fun t140 => ((when_Days.f t139 t140).bind fun t141 => (some (1, t141)))) else (none)) else (none))) else (none)) else (none)) else (if a1 = 8 then (some (0, 23)) else (some (0, 59))))
set_option maxHeartbeats 8000000 in
set_option maxRecDepth 100000 in
theorem when_span.calls (k : Nat) (a0 : ByteArray) (a1 : Int) (r1 : Int) (r2 : Int) (w : World) (h : when_span.f k a0 a1 = some (r1, r2)) :
 Calls Try.prog 120 #[.string a0, .int .i64 a1] w fun e w' => e = .returned (.tuple #[.int .i64 r1, .int .i64 r2]) ∧ Drawn0 w w' := by
 have H : (if a1 = 4 then (some (1, 12)) else (if a1 = 6 then (if 0 ≤ 4 then (if 4 ≤ (a0.size : Int) then ((when_number.f k (a0.extract 0 4)).bind fun t139 => (if 4 ≤ 6 then (if 6 ≤ (a0.size : Int) then ((when_number.f k (a0.extract 4 6)).bind fun t140 => ((when_Days.f t139 t140).bind fun t141 => (some (1, t141)))) else (none)) else (none))) else (none)) else (none)) else (if a1 = 8 then (some (0, 23)) else (some (0, 59))))) = some (r1, r2) := h
 clear h
 by_cases c3 : a1 = 4
 ·
  rw [if_pos c3] at H
  have c3b0 := beq_iff_eq.mpr c3
  have c3b1 := bne_eq_false_iff_eq.mpr c3
  clear c3
  simp only [Option.some.injEq, Prod.mk.injEq] at H
  obtain ⟨rfl, rfl⟩ := H
  go_enter Try.func120, Try.ntmps120
  go_wp2
  repeat (go_quiet (fail); try go_wp2)
  go_ret2
  exact ⟨zz0, zz6⟩
 ·
  rw [if_neg c3] at H
  have c3b0 := beq_eq_false_iff_ne.mpr c3
  have c3b1 := bne_iff_ne.mpr c3
  by_cases c4 : a1 = 6
  ·
   rw [if_pos c4] at H
   have c4b0 := beq_iff_eq.mpr c4
   have c4b1 := bne_eq_false_iff_eq.mpr c4
   clear c4
   by_cases c5 : 0 ≤ 4
   ·
    rw [if_pos c5] at H
    have c5b0 := eq_true c5
    have c5b1 := decide_eq_true c5
    clear c5
    by_cases c6 : 4 ≤ (a0.size : Int)
    ·
     rw [if_pos c6] at H
     have c6b0 := eq_true c6
     have c6b1 := decide_eq_true c6
     clear c6
     replace H := Option.bind_eq_some_iff.mp H
     obtain ⟨t139, A70, H⟩ := H
     replace H : (if 4 ≤ 6 then (if 6 ≤ (a0.size : Int) then ((when_number.f k (a0.extract 4 6)).bind fun t140 => ((when_Days.f t139 t140).bind fun t141 => (some (1, t141)))) else (none)) else (none)) = some (r1, r2) := H
     have A7 := Aside0.mk A70
     clear A70
     by_cases c8 : 4 ≤ 6
     ·
      rw [if_pos c8] at H
      have c8b0 := eq_true c8
      have c8b1 := decide_eq_true c8
      clear c8
      by_cases c9 : 6 ≤ (a0.size : Int)
      ·
       rw [if_pos c9] at H
       have c9b0 := eq_true c9
       have c9b1 := decide_eq_true c9
       clear c9
       replace H := Option.bind_eq_some_iff.mp H
       obtain ⟨t140, A100, H⟩ := H
       replace H : ((when_Days.f t139 t140).bind fun t141 => (some (1, t141))) = some (r1, r2) := H
       have A10 := Aside0.mk A100
       clear A100
       replace H := Option.bind_eq_some_iff.mp H
       obtain ⟨t141, A110, H⟩ := H
       replace H : (some (1, t141)) = some (r1, r2) := H
       have A11 := Aside0.mk A110
       clear A110
       simp only [Option.some.injEq, Prod.mk.injEq] at H
       obtain ⟨rfl, rfl⟩ := H
       go_enter Try.func120, Try.ntmps120
       go_wp2_with (first | (go_at_call 121; (with_reducible refine (when_number.calls k (a0.extract 0 4) t139 _ A7.out).mono ?_); rintro e w' ⟨rfl, ⟨nd, rfl⟩⟩; (try first | exact ⟨rfl, _, World.drewN_drewN _ _ _⟩ | exact ⟨rfl, _, Eq.trans (World.drewN_drewN _ _ _) (congrArg (World.drewN _) (Nat.add_assoc _ _ _))⟩)) | (go_at_call 121; (with_reducible refine (when_number.calls k (a0.extract 4 6) t140 _ A10.out).mono ?_); rintro e w' ⟨rfl, ⟨nd, rfl⟩⟩; (try first | exact ⟨rfl, _, World.drewN_drewN _ _ _⟩ | exact ⟨rfl, _, Eq.trans (World.drewN_drewN _ _ _) (congrArg (World.drewN _) (Nat.add_assoc _ _ _))⟩)) | (go_at_call 122; (with_reducible refine (when_Days.calls t139 t140 t141 _ A11.out).mono ?_); rintro e w' ⟨rfl, ⟨nd, rfl⟩⟩; (try first | exact ⟨rfl, _, World.drewN_drewN _ _ _⟩ | exact ⟨rfl, _, Eq.trans (World.drewN_drewN _ _ _) (congrArg (World.drewN _) (Nat.add_assoc _ _ _))⟩)))
       repeat (go_quiet (first | (go_at_call 121; (with_reducible refine (when_number.calls k (a0.extract 0 4) t139 _ A7.out).mono ?_); rintro e w' ⟨rfl, ⟨nd, rfl⟩⟩; (try first | exact ⟨rfl, _, World.drewN_drewN _ _ _⟩ | exact ⟨rfl, _, Eq.trans (World.drewN_drewN _ _ _) (congrArg (World.drewN _) (Nat.add_assoc _ _ _))⟩)) | (go_at_call 121; (with_reducible refine (when_number.calls k (a0.extract 4 6) t140 _ A10.out).mono ?_); rintro e w' ⟨rfl, ⟨nd, rfl⟩⟩; (try first | exact ⟨rfl, _, World.drewN_drewN _ _ _⟩ | exact ⟨rfl, _, Eq.trans (World.drewN_drewN _ _ _) (congrArg (World.drewN _) (Nat.add_assoc _ _ _))⟩)) | (go_at_call 122; (with_reducible refine (when_Days.calls t139 t140 t141 _ A11.out).mono ?_); rintro e w' ⟨rfl, ⟨nd, rfl⟩⟩; (try first | exact ⟨rfl, _, World.drewN_drewN _ _ _⟩ | exact ⟨rfl, _, Eq.trans (World.drewN_drewN _ _ _) (congrArg (World.drewN _) (Nat.add_assoc _ _ _))⟩))); try go_wp2_with (first | (go_at_call 121; (with_reducible refine (when_number.calls k (a0.extract 0 4) t139 _ A7.out).mono ?_); rintro e w' ⟨rfl, ⟨nd, rfl⟩⟩; (try first | exact ⟨rfl, _, World.drewN_drewN _ _ _⟩ | exact ⟨rfl, _, Eq.trans (World.drewN_drewN _ _ _) (congrArg (World.drewN _) (Nat.add_assoc _ _ _))⟩)) | (go_at_call 121; (with_reducible refine (when_number.calls k (a0.extract 4 6) t140 _ A10.out).mono ?_); rintro e w' ⟨rfl, ⟨nd, rfl⟩⟩; (try first | exact ⟨rfl, _, World.drewN_drewN _ _ _⟩ | exact ⟨rfl, _, Eq.trans (World.drewN_drewN _ _ _) (congrArg (World.drewN _) (Nat.add_assoc _ _ _))⟩)) | (go_at_call 122; (with_reducible refine (when_Days.calls t139 t140 t141 _ A11.out).mono ?_); rintro e w' ⟨rfl, ⟨nd, rfl⟩⟩; (try first | exact ⟨rfl, _, World.drewN_drewN _ _ _⟩ | exact ⟨rfl, _, Eq.trans (World.drewN_drewN _ _ _) (congrArg (World.drewN _) (Nat.add_assoc _ _ _))⟩))))
       go_ret2
       exact ⟨zz0, zz6⟩
      ·
       rw [if_neg c9] at H
       exact absurd H zz19
     ·
      rw [if_neg c8] at H
      exact absurd H zz19
    ·
     rw [if_neg c6] at H
     exact absurd H zz19
   ·
    rw [if_neg c5] at H
    exact absurd H zz19
  ·
   rw [if_neg c4] at H
   have c4b0 := beq_eq_false_iff_ne.mpr c4
   have c4b1 := bne_iff_ne.mpr c4
   by_cases c12 : a1 = 8
   ·
    rw [if_pos c12] at H
    have c12b0 := beq_iff_eq.mpr c12
    have c12b1 := bne_eq_false_iff_eq.mpr c12
    clear c12
    simp only [Option.some.injEq, Prod.mk.injEq] at H
    obtain ⟨rfl, rfl⟩ := H
    go_enter Try.func120, Try.ntmps120
    go_wp2
    repeat (go_quiet (fail); try go_wp2)
    go_ret2
    exact ⟨zz0, zz6⟩
   ·
    rw [if_neg c12] at H
    have c12b0 := beq_eq_false_iff_ne.mpr c12
    have c12b1 := bne_iff_ne.mpr c12
    simp only [Option.some.injEq, Prod.mk.injEq] at H
    obtain ⟨rfl, rfl⟩ := H
    go_enter Try.func120, Try.ntmps120
    go_wp2
    repeat (go_quiet (fail); try go_wp2)
    go_ret2
    exact ⟨zz0, zz6⟩
def when_may.f (k : Nat) (a0 : ByteArray) : Option (Bool) := if (a0.size : Int) ≤ 4 then (some true) else ((when_span.f k a0 (Go.bits .andNot .i64 (wrap64 ((a0.size : Int) - 1)) 1)).bind fun bt142 => (if ((a0.size : Int) % 2) = 1 then (if 0 ≤ (Go.bits .andNot .i64 (wrap64 ((a0.size : Int) - 1)) 1) then (if (Go.bits .andNot .i64 (wrap64 ((a0.size : Int) - 1)) 1) ≤ (a0.size : Int) then ((when_number.f k (a0.extract ((Go.bits .andNot .i64 (wrap64 ((a0.size : Int) - 1)) 1) : Int).toNat a0.size)).bind fun t144 => (if t144 ≥ (wrap64 (Int.tdiv bt142.1 10)) then ((when_number.f k (a0.extract ((Go.bits .andNot .i64 (wrap64 ((a0.size : Int) - 1)) 1) : Int).toNat a0.size)).bind fun t145 => (some (decide (t145 ≤ (wrap64 (Int.tdiv bt142.2 10)))))) else (some false))) else (none)) else (none)) else (if 0 ≤ (Go.bits .andNot .i64 (wrap64 ((a0.size : Int) - 1)) 1) then (if (Go.bits .andNot .i64 (wrap64 ((a0.size : Int) - 1)) 1) ≤ (a0.size : Int) then ((when_number.f k (a0.extract ((Go.bits .andNot .i64 (wrap64 ((a0.size : Int) - 1)) 1) : Int).toNat a0.size)).bind fun t146 => (if t146 ≥ bt142.1 then ((when_number.f k (a0.extract ((Go.bits .andNot .i64 (wrap64 ((a0.size : Int) - 1)) 1) : Int).toNat a0.size)).bind fun t147 => (some (decide (t147 ≤ bt142.2)))) else (some false))) else (none)) else (none))))
set_option maxHeartbeats 8000000 in
set_option maxRecDepth 100000 in
theorem when_may.calls (k : Nat) (a0 : ByteArray) (r : Bool) (w : World) (h : when_may.f k a0 = some r) :
 Calls Try.prog 118 #[.string a0] w fun e w' => e = .returned (.bool r) ∧ Drawn0 w w' := by
 have H : (if (a0.size : Int) ≤ 4 then (some true) else ((when_span.f k a0 (Go.bits .andNot .i64 (wrap64 ((a0.size : Int) - 1)) 1)).bind fun bt142 => (if ((a0.size : Int) % 2) = 1 then (if 0 ≤ (Go.bits .andNot .i64 (wrap64 ((a0.size : Int) - 1)) 1) then (if (Go.bits .andNot .i64 (wrap64 ((a0.size : Int) - 1)) 1) ≤ (a0.size : Int) then ((when_number.f k (a0.extract ((Go.bits .andNot .i64 (wrap64 ((a0.size : Int) - 1)) 1) : Int).toNat a0.size)).bind fun t144 => (if t144 ≥ (wrap64 (Int.tdiv bt142.1 10)) then ((when_number.f k (a0.extract ((Go.bits .andNot .i64 (wrap64 ((a0.size : Int) - 1)) 1) : Int).toNat a0.size)).bind fun t145 => (some (decide (t145 ≤ (wrap64 (Int.tdiv bt142.2 10)))))) else (some false))) else (none)) else (none)) else (if 0 ≤ (Go.bits .andNot .i64 (wrap64 ((a0.size : Int) - 1)) 1) then (if (Go.bits .andNot .i64 (wrap64 ((a0.size : Int) - 1)) 1) ≤ (a0.size : Int) then ((when_number.f k (a0.extract ((Go.bits .andNot .i64 (wrap64 ((a0.size : Int) - 1)) 1) : Int).toNat a0.size)).bind fun t146 => (if t146 ≥ bt142.1 then ((when_number.f k (a0.extract ((Go.bits .andNot .i64 (wrap64 ((a0.size : Int) - 1)) 1) : Int).toNat a0.size)).bind fun t147 => (some (decide (t147 ≤ bt142.2)))) else (some false))) else (none)) else (none))))) = some r := h
 clear h
 by_cases c2 : (a0.size : Int) ≤ 4
 ·
  rw [if_pos c2] at H
  have c2b0 := decide_eq_true c2
  have c2b1 : decide (a0.size ≤ 4) = true := decide_eq_true zz4
  clear c2
  obtain rfl := Option.some.inj H
  go_enter Try.func118, Try.ntmps118
  go_wp2
  go_ret
  exact ⟨zz0, zz6⟩
 ·
  rw [if_neg c2] at H
  have c2b0 := decide_eq_false c2
  have c2b1 : decide (a0.size ≤ 4) = false := decide_eq_false zz4
  clear c2
  replace H := Option.bind_eq_some_iff.mp H
  obtain ⟨⟨t142, t143⟩, A30, H⟩ := H
  replace H : (if ((a0.size : Int) % 2) = 1 then (if 0 ≤ (Go.bits .andNot .i64 (wrap64 ((a0.size : Int) - 1)) 1) then (if (Go.bits .andNot .i64 (wrap64 ((a0.size : Int) - 1)) 1) ≤ (a0.size : Int) then ((when_number.f k (a0.extract ((Go.bits .andNot .i64 (wrap64 ((a0.size : Int) - 1)) 1) : Int).toNat a0.size)).bind fun t144 => (if t144 ≥ (wrap64 (Int.tdiv t142 10)) then ((when_number.f k (a0.extract ((Go.bits .andNot .i64 (wrap64 ((a0.size : Int) - 1)) 1) : Int).toNat a0.size)).bind fun t145 => (some (decide (t145 ≤ (wrap64 (Int.tdiv t143 10)))))) else (some false))) else (none)) else (none)) else (if 0 ≤ (Go.bits .andNot .i64 (wrap64 ((a0.size : Int) - 1)) 1) then (if (Go.bits .andNot .i64 (wrap64 ((a0.size : Int) - 1)) 1) ≤ (a0.size : Int) then ((when_number.f k (a0.extract ((Go.bits .andNot .i64 (wrap64 ((a0.size : Int) - 1)) 1) : Int).toNat a0.size)).bind fun t146 => (if t146 ≥ t142 then ((when_number.f k (a0.extract ((Go.bits .andNot .i64 (wrap64 ((a0.size : Int) - 1)) 1) : Int).toNat a0.size)).bind fun t147 => (some (decide (t147 ≤ t143)))) else (some false))) else (none)) else (none))) = some r := H
  have A3 := Aside0.mk A30
  clear A30
  by_cases c4 : ((a0.size : Int) % 2) = 1
  ·
   rw [if_pos c4] at H
   have c4b0 := beq_iff_eq.mpr c4
   have c4b1 := bne_eq_false_iff_eq.mpr c4
   clear c4
   obtain ⟨ji5, hji5⟩ : ∃ j_ : Int, (Go.bits .andNot .i64 (wrap64 ((a0.size : Int) - 1)) 1) = j_ := ⟨_, rfl⟩
   replace H : (if 0 ≤ (ji5) then (if (ji5) ≤ (a0.size : Int) then ((when_number.f k (a0.extract ((ji5) : Int).toNat a0.size)).bind fun t144 => (if t144 ≥ (wrap64 (Int.tdiv t142 10)) then ((when_number.f k (a0.extract ((ji5) : Int).toNat a0.size)).bind fun t145 => (some (decide (t145 ≤ (wrap64 (Int.tdiv t143 10)))))) else (some false))) else (none)) else (none)) = some r := by first | (rw [hji5] at H; exact H) | (simp only [hji5] at H ⊢; exact H)
   (try rw [hji5] at A3)
   by_cases c6 : 0 ≤ (ji5)
   ·
    rw [if_pos c6] at H
    have c6b0 := eq_true c6
    have c6b1 := decide_eq_true c6
    clear c6
    by_cases c7 : (ji5) ≤ (a0.size : Int)
    ·
     rw [if_pos c7] at H
     have c7b0 := eq_true c7
     have c7b1 := decide_eq_true c7
     clear c7
     obtain ⟨xt5, hxt5⟩ : ∃ x_ : ByteArray, (a0.extract ((ji5) : Int).toNat a0.size) = x_ := ⟨_, rfl⟩
     rw [hxt5] at H
     replace H := Option.bind_eq_some_iff.mp H
     obtain ⟨t144, A80, H⟩ := H
     replace H : (if t144 ≥ (wrap64 (Int.tdiv t142 10)) then ((when_number.f k xt5).bind fun t145 => (some (decide (t145 ≤ (wrap64 (Int.tdiv t143 10)))))) else (some false)) = some r := H
     have A8 := Aside0.mk A80
     clear A80
     by_cases c9 : t144 ≥ (wrap64 (Int.tdiv t142 10))
     ·
      rw [if_pos c9] at H
      have c9b0 : decide ((wrap64 (Int.tdiv t142 10)) ≤ t144) = true := decide_eq_true c9
      clear c9
      have c10b0 := eq_true (of_decide_eq_true zz10 : 0 ≤ (ji5))
      have c11b0 := eq_true (of_decide_eq_true zz10 : (ji5) ≤ (a0.size : Int))
      replace H := Option.bind_eq_some_iff.mp H
      obtain ⟨t145, A120, H⟩ := H
      replace H : (some (decide (t145 ≤ (wrap64 (Int.tdiv t143 10))))) = some r := H
      have A12 := Aside0.mk A120
      clear A120
      have hsm_ := A8.out.symm.trans A12.out
      simp only [Option.some.injEq, Prod.mk.injEq] at hsm_
      obtain rfl := hsm_
      obtain rfl := Option.some.inj H
      go_enter Try.func118, Try.ntmps118
      go_wp2_with (first | ((with_reducible refine gate_callee (f := 120) rfl ?_); refine goesL_ (some 17) rfl rfl Try.func120 zz5 rfl #[.string a0, .int .i64 ji5] rfl zz24 ?_; (with_reducible refine (when_span.calls k a0 ji5 t142 t143 _ A3.out).mono ?_); rintro e w' ⟨rfl, ⟨nd, rfl⟩⟩; refine ⟨_, rfl, ?_⟩) | ((with_reducible refine gate_callee (f := 121) rfl ?_); refine goesL_ (some 26) rfl rfl Try.func121 zz5 rfl #[.string xt5] rfl zz24 ?_; (with_reducible refine (when_number.calls k xt5 t144 _ A8.out).mono ?_); rintro e w' ⟨rfl, ⟨nd, rfl⟩⟩; refine ⟨_, rfl, ?_⟩) | (go_at_call 121; (with_reducible refine (when_number.calls k xt5 t144 _ A12.out).mono ?_); rintro e w' ⟨rfl, ⟨nd, rfl⟩⟩))
      go_ret
      exact ⟨by first | rfl | (simp; done) | (simp only [← hji5] <;> (first | rfl | simp)) | (simp [*]; done), zz6⟩
     ·
      rw [if_neg c9] at H
      have c9b0 : decide ((wrap64 (Int.tdiv t142 10)) ≤ t144) = false := decide_eq_false c9
      clear c9
      obtain rfl := Option.some.inj H
      go_enter Try.func118, Try.ntmps118
      go_wp2_with (first | ((with_reducible refine gate_callee (f := 120) rfl ?_); refine goesL_ (some 17) rfl rfl Try.func120 zz5 rfl #[.string a0, .int .i64 ji5] rfl zz24 ?_; (with_reducible refine (when_span.calls k a0 ji5 t142 t143 _ A3.out).mono ?_); rintro e w' ⟨rfl, ⟨nd, rfl⟩⟩; refine ⟨_, rfl, ?_⟩) | ((with_reducible refine gate_callee (f := 121) rfl ?_); refine goesL_ (some 26) rfl rfl Try.func121 zz5 rfl #[.string xt5] rfl zz24 ?_; (with_reducible refine (when_number.calls k xt5 t144 _ A8.out).mono ?_); rintro e w' ⟨rfl, ⟨nd, rfl⟩⟩; refine ⟨_, rfl, ?_⟩))
      go_ret
      exact ⟨by first | rfl | (simp; done) | (simp only [← hji5] <;> (first | rfl | simp)) | (simp [*]; done), zz6⟩
    ·
     rw [if_neg c7] at H
     exact absurd H zz19
   ·
    rw [if_neg c6] at H
    exact absurd H zz19
  ·
   rw [if_neg c4] at H
   have c4b0 := beq_eq_false_iff_ne.mpr c4
   have c4b1 := bne_iff_ne.mpr c4
   obtain ⟨ji13, hji13⟩ : ∃ j_ : Int, (Go.bits .andNot .i64 (wrap64 ((a0.size : Int) - 1)) 1) = j_ := ⟨_, rfl⟩
   replace H : (if 0 ≤ (ji13) then (if (ji13) ≤ (a0.size : Int) then ((when_number.f k (a0.extract ((ji13) : Int).toNat a0.size)).bind fun t146 => (if t146 ≥ t142 then ((when_number.f k (a0.extract ((ji13) : Int).toNat a0.size)).bind fun t147 => (some (decide (t147 ≤ t143)))) else (some false))) else (none)) else (none)) = some r := by first | (rw [hji13] at H; exact H) | (simp only [hji13] at H ⊢; exact H)
   (try rw [hji13] at A3)
   by_cases c14 : 0 ≤ (ji13)
   ·
    rw [if_pos c14] at H
    have c14b0 := eq_true c14
    have c14b1 := decide_eq_true c14
    clear c14
    by_cases c15 : (ji13) ≤ (a0.size : Int)
    ·
     rw [if_pos c15] at H
     have c15b0 := eq_true c15
     have c15b1 := decide_eq_true c15
     clear c15
     obtain ⟨xt13, hxt13⟩ : ∃ x_ : ByteArray, (a0.extract ((ji13) : Int).toNat a0.size) = x_ := ⟨_, rfl⟩
     rw [hxt13] at H
     replace H := Option.bind_eq_some_iff.mp H
     obtain ⟨t146, A160, H⟩ := H
     replace H : (if t146 ≥ t142 then ((when_number.f k xt13).bind fun t147 => (some (decide (t147 ≤ t143)))) else (some false)) = some r := H
     have A16 := Aside0.mk A160
     clear A160
     by_cases c17 : t146 ≥ t142
     ·
      rw [if_pos c17] at H
      have c17b0 : decide (t142 ≤ t146) = true := decide_eq_true c17
      clear c17
      have c18b0 := eq_true (of_decide_eq_true zz10 : 0 ≤ (ji13))
      have c19b0 := eq_true (of_decide_eq_true zz10 : (ji13) ≤ (a0.size : Int))
      replace H := Option.bind_eq_some_iff.mp H
      obtain ⟨t147, A200, H⟩ := H
      replace H : (some (decide (t147 ≤ t143))) = some r := H
      have A20 := Aside0.mk A200
      clear A200
      have hsm_ := A16.out.symm.trans A20.out
      simp only [Option.some.injEq, Prod.mk.injEq] at hsm_
      obtain rfl := hsm_
      obtain rfl := Option.some.inj H
      go_enter Try.func118, Try.ntmps118
      go_wp2_with (first | ((with_reducible refine gate_callee (f := 120) rfl ?_); refine goesL_ (some 17) rfl rfl Try.func120 zz5 rfl #[.string a0, .int .i64 ji13] rfl zz23 ?_; (with_reducible refine (when_span.calls k a0 ji13 t142 t143 _ A3.out).mono ?_); rintro e w' ⟨rfl, ⟨nd, rfl⟩⟩; refine ⟨_, rfl, ?_⟩) | ((with_reducible refine gate_callee (f := 121) rfl ?_); refine goesL_ (some 42) rfl rfl Try.func121 zz5 rfl #[.string xt13] rfl zz23 ?_; (with_reducible refine (when_number.calls k xt13 t146 _ A16.out).mono ?_); rintro e w' ⟨rfl, ⟨nd, rfl⟩⟩; refine ⟨_, rfl, ?_⟩) | (go_at_call 121; (with_reducible refine (when_number.calls k xt13 t146 _ A20.out).mono ?_); rintro e w' ⟨rfl, ⟨nd, rfl⟩⟩))
      go_ret
      exact ⟨by first | rfl | (simp; done) | (simp only [← hji13] <;> (first | rfl | simp)) | (simp [*]; done), zz6⟩
     ·
      rw [if_neg c17] at H
      have c17b0 : decide (t142 ≤ t146) = false := decide_eq_false c17
      clear c17
      obtain rfl := Option.some.inj H
      go_enter Try.func118, Try.ntmps118
      go_wp2_with (first | ((with_reducible refine gate_callee (f := 120) rfl ?_); refine goesL_ (some 17) rfl rfl Try.func120 zz5 rfl #[.string a0, .int .i64 ji13] rfl zz23 ?_; (with_reducible refine (when_span.calls k a0 ji13 t142 t143 _ A3.out).mono ?_); rintro e w' ⟨rfl, ⟨nd, rfl⟩⟩; refine ⟨_, rfl, ?_⟩) | ((with_reducible refine gate_callee (f := 121) rfl ?_); refine goesL_ (some 42) rfl rfl Try.func121 zz5 rfl #[.string xt13] rfl zz23 ?_; (with_reducible refine (when_number.calls k xt13 t146 _ A16.out).mono ?_); rintro e w' ⟨rfl, ⟨nd, rfl⟩⟩; refine ⟨_, rfl, ?_⟩))
      go_ret
      exact ⟨by first | rfl | (simp; done) | (simp only [← hji13] <;> (first | rfl | simp)) | (simp [*]; done), zz6⟩
    ·
     rw [if_neg c15] at H
     exact absurd H zz19
   ·
    rw [if_neg c14] at H
    exact absurd H zz19
end Go.Proofs.Ytcfommconnlhgaa.PC
namespace Go.Proofs.Ytcfommconnlhgaa.PC
open RowKit YtcfommconnlhgaaW.PrintWords YtcfommconnlhgaaW.PrintLast YtcfommconnlhgaaW.PrintMore
attribute [local go_sem] max2_int min2_int max_two min_two max_three min_three max_four min_four
set_option linter.unusedVariables false
set_option linter.unusedSimpArgs false
def when_late.l0 : Nat → ByteArray → Option (Bool)
 | 0, _ => none
 | k + 1, x3 => if (x3.size : Int) < 4 then (if x3.size + 1 ≤ 9223372036854775807 then (when_late.l0 k (x3 ++ (⟨#[57]⟩ : ByteArray))) else (none)) else (if 0 ≤ 4 then (if 4 ≤ (x3.size : Int) then ((when_number.f k (x3.extract 0 4)).bind fun t148 => (some (decide (t148 ≥ 2050)))) else (none)) else (none))
def when_late.f (k : Nat) (a0 : ByteArray) : Option (Bool) := when_late.l0 k a0
set_option maxHeartbeats 8000000 in
set_option maxRecDepth 100000 in
theorem when_late.calls (k : Nat) (a0 : ByteArray) (r : Bool) (w : World) (h : when_late.f k a0 = some r) :
 Calls Try.prog 119 #[.string a0] w fun e w' => e = .returned (.bool r) ∧ Drawn0 w w' := by
 have H : (when_late.l0 k a0) = some r := h
 clear h
 have H' := Aside0.mk H
 clear H
 go_enter Try.func119, Try.ntmps119
 go_wp2
 go_loopg [3] k (fun kq v3 w' => ∃ (x3_1 : ByteArray), v3 = .string x3_1 ∧ Aside0 (when_late.l0 kq x3_1 = some r) ∧ Aside0 (kq ≤ k) ∧ Drawn0 w w')
 case atStart => exact ⟨(a0), zz0, H', ⟨Nat.le_refl _⟩, zz6⟩
 case round =>
  clear H'
  obtain ⟨x3_1, rfl, HA, HK1, ⟨m1, rfl⟩⟩ := hrel
  cases gk with
  | zero => exact absurd HA.out (by simp [when_late.l0])
  | succ k1 =>
    have H := HA.out
    clear HA
    simp only [when_late.l0] at H
    by_cases c2 : (x3_1.size : Int) < 4
    ·
     rw [if_pos c2] at H
     have c2b0 := decide_eq_true c2
     have c2b1 : decide (x3_1.size < 4) = true := decide_eq_true zz4
     clear c2
     by_cases c3 : x3_1.size + 1 ≤ 9223372036854775807
     ·
      rw [if_pos c3] at H
      have c3b0 := eq_true c3
      have c3b1 := decide_eq_true c3
      try have c3b2 : (9223372036854775807 < x3_1.size + 1) = False := eq_false (Nat.not_lt.2 c3)
      have H' := Aside0.mk H
      clear H
      go_wp2
      go_roundg k1
      case measure => have := HK1.out; omega
      case rel => exact ⟨(x3_1 ++ (⟨#[57]⟩ : ByteArray)), zz0, H', ⟨by have := HK1.out; omega⟩, zz6⟩
     ·
      rw [if_neg c3] at H
      exact absurd H zz19
    ·
     rw [if_neg c2] at H
     have c2b0 := decide_eq_false c2
     have c2b1 : decide (x3_1.size < 4) = false := decide_eq_false zz4
     clear c2
     by_cases c4 : 0 ≤ 4
     ·
      rw [if_pos c4] at H
      have c4b0 := eq_true c4
      have c4b1 := decide_eq_true c4
      clear c4
      by_cases c5 : 4 ≤ (x3_1.size : Int)
      ·
       rw [if_pos c5] at H
       have c5b0 := eq_true c5
       have c5b1 := decide_eq_true c5
       clear c5
       replace H := Option.bind_eq_some_iff.mp H
       obtain ⟨t148, A60, H⟩ := H
       replace H : (some (decide (t148 ≥ 2050))) = some r := H
       have A6 := Aside0.mk A60
       clear A60
       obtain rfl := Option.some.inj H
       go_wp2_with (first | ((with_reducible refine gate_callee (f := 121) rfl ?_); refine goesL_ (some 12) rfl rfl Try.func121 zz5 rfl #[.string (x3_1.extract 0 4)] rfl (by (try simp only [List.map_toArray, List.map_cons, List.map_nil]); first | done | rfl | (simp only [List.length_drop, List.length_take]; rfl)) ?_; (with_reducible refine (when_number.calls k1 (x3_1.extract 0 4) t148 _ A6.out).mono ?_); rintro e w' ⟨rfl, ⟨nd, rfl⟩⟩; refine ⟨_, rfl, ?_⟩))
       go_ret
       exact ⟨zz0, zz6⟩
      ·
       rw [if_neg c5] at H
       exact absurd H zz19
     ·
      rw [if_neg c4] at H
      exact absurd H zz19
end Go.Proofs.Ytcfommconnlhgaa.PC
namespace Go.Proofs.Ytcfommconnlhgaa.PC
open Own Sl
open RowKit YtcfommconnlhgaaW.PrintWords YtcfommconnlhgaaW.PrintLast YtcfommconnlhgaaW.PrintMore
attribute [local go_sem] max2_int min2_int max_two min_two max_three min_three max_four min_four
set_option linter.unusedVariables false
set_option linter.unusedSimpArgs false
mutual
def when_State_Push.j0 : Nat → Int → Bool → ByteArray → Int → Bool → Option (ByteArray × Int × Bool × Bool)
 | 0, _, _, _, _, _ => none
 | k + 1, x1, x22, x150000, x150001, x150002 => if x22 = true then (some ((⟨#[]⟩ : ByteArray), 0, false, false)) else (if x150002 = true then (when_State_Push.j1 k x1 (x150000.toList == ([] : List UInt8)) x150000 x150001 x150002) else (when_State_Push.j1 k x1 false x150000 x150001 x150002))
def when_State_Push.j1 : Nat → Int → Bool → ByteArray → Int → Bool → Option (ByteArray × Int × Bool × Bool)
 | 0, _, _, _, _, _ => none
 | k + 1, x1, x30, x150000, x150001, x150002 => if x30 = true then (if x1 ≥ 53 then (when_State_Push.j2 k x1 (⟨#[49, 57]⟩ : ByteArray) x150001 x150002) else (when_State_Push.j2 k x1 (⟨#[50, 48]⟩ : ByteArray) x150001 x150002)) else (when_State_Push.j2 k x1 x150000 x150001 x150002)
def when_State_Push.j2 : Nat → Int → ByteArray → Int → Bool → Option (ByteArray × Int × Bool × Bool)
 | 0, _, _, _, _ => none
 | k + 1, x1, x150000, x150001, x150002 => (some (([x1] : List Int) : List Int)).bind fun y151 => (if x150000.size + (strOfNums y151).size ≤ 9223372036854775807 then ((when_may.f k (x150000 ++ (strOfNums y151))).bind fun t154 => (if t154 = true then (if x150002 = true then (some (x150000 ++ (strOfNums y151), x150001, x150002, true)) else ((when_late.f k (x150000 ++ (strOfNums y151))).bind fun t155 => (if t155 = true then (some (x150000 ++ (strOfNums y151), x150001, x150002, true)) else (some ((⟨#[]⟩ : ByteArray), 0, false, false))))) else (some ((⟨#[]⟩ : ByteArray), 0, false, false)))) else (none))
end
def when_State_Push.f (k : Nat) (a0_0 : ByteArray) (a0_1 : Int) (a0_2 : Bool) (a1 : Int) : Option (ByteArray × Int × Bool × Bool) := if (wrap64 (a0_1 - 1)) = 0 then (if a1 = 90 then (some (a0_0, wrap64 (a0_1 - 1), a0_2, true)) else (some ((⟨#[]⟩ : ByteArray), 0, false, false))) else (if a1 < 48 then (when_State_Push.j0 k a1 true a0_0 (wrap64 (a0_1 - 1)) a0_2) else (when_State_Push.j0 k a1 (decide (a1 > 57)) a0_0 (wrap64 (a0_1 - 1)) a0_2))
set_option maxHeartbeats 8000000 in
set_option maxRecDepth 100000 in
theorem when_State_Push.calls (k : Nat) (a0_0 : ByteArray) (a0_1 : Int) (a0_2 : Bool) (a1 : Int) (r1 : ByteArray) (r2 : Int) (r3 : Bool) (r4 : Bool) (w : World) (h : when_State_Push.f k a0_0 a0_1 a0_2 a1 = some (r1, r2, r3, r4)) :
 Calls Try.prog 117 #[.agg #[.string a0_0, .int .i64 a0_1, .bool a0_2], .int .u8 a1] w fun e w' => e = .returned (.tuple #[.agg #[.string r1, .int .i64 r2, .bool r3], .bool r4]) ∧ Below w.heap.size w w' := by
 have hS := Sp.nil (w := w) (S := None0)
 have hu := Try.underlying166
 have eb : ∀ a b : Int, (a = b) = ((a == b) = true) := fun a b => by simp
 obtain ⟨x, hx⟩ : ∃ x, wrap64 (a0_1 - 1) = x := ⟨_, rfl⟩
 have hx2 : IntKind.i64.wrap (a0_1 - 1) = x := by rw [← hx]; exact i64_w _
 unfold when_State_Push.f at h
 rw [hx] at h
 by_cases c0 : x = 0 ∨ a1 < 48 ∨ 57 < a1
 ·
  cases c1 : (x == 0) <;> cases c2 : (a1 == 90) <;> cases c3 : decide (a1 < 48) <;> cases c4 : decide (57 < a1)
  all_goals
   try (exfalso; clear hx hx2 h; simp only [beq_iff_eq, beq_eq_false_iff_ne, ne_eq, decide_eq_true_eq, decide_eq_false_iff_not] at *; omega)
  all_goals
   have n2 : (a1 != 90) = !(a1 == 90) := rfl
   rw [c2] at n2
   simp only [Bool.not_true, Bool.not_false] at n2
   try have d3 := of_decide_eq_true c3
   try have d3 := of_decide_eq_false c3
   cases k <;> simp only [eb x 0, eb a1 90, c1, c2, d3, c4, when_State_Push.j0, gt_iff_lt, if_true, if_false, Bool.false_eq_true, Option.some.injEq, Prod.mk.injEq, reduceIte, reduceCtorEq] at h
  all_goals
   obtain ⟨rfl, rfl, rfl, rfl⟩ := h
   clear hx eb c0 d3
   go_enter Try.func117, Try.ntmps117
   go_wp2_with (first
    | ((with_reducible refine gate_dst (N := 2) rfl ?_)
       refine sp_box hS rfl (N := 2) rfl _ 166 zz1 ?_
       intro g2 w2 hg2 hS)
    | ((with_reducible refine gate_dst (N := 4) rfl ?_)
       refine sp_box hS rfl (N := 4) rfl _ 166 zz1 ?_
       intro g4 w4 hg4 hS
       obtain ⟨j0, j1, j2⟩ := hS.cells3 1)
    | ((with_reducible refine gate_store (t := 3) (p := 9) (v := .tmp 8) rfl ?_)
       refine sp_cell hS 1 rfl 3 (.tmp 9) (.tmp 8) rfl rfl g2 1 (.int .i64 _) rfl rfl 166 _ _ rfl zz5 zz19 rfl rfl rfl ?_
       clear j0 j1 j2
       intro w9 hS
       skip
       obtain ⟨j0, j1, j2⟩ := hS.cells3 1)
    | ((with_reducible refine gate_store (t := 166) (p := 4) (v := .tmp 15) rfl ?_)
       refine sp_row hS 0 rfl 166 (.tmp 4) (.tmp 15) rfl rfl g4 _ rfl rfl 166 _ rfl zz5 rfl zz16 rfl ?_
       intro w15 hS)
    | ((with_reducible refine gate_store (t := 166) (p := 4) (v := .tmp 16) rfl ?_)
       refine sp_row hS 0 rfl 166 (.tmp 4) (.tmp 16) rfl rfl g4 _ rfl rfl 166 _ rfl zz5 rfl zz16 rfl ?_
       intro w16 hS)
    | ((with_reducible refine gate_store (t := 166) (p := 4) (v := .tmp 23) rfl ?_)
       refine sp_row hS 0 rfl 166 (.tmp 4) (.tmp 23) rfl rfl g4 _ rfl rfl 166 _ rfl zz5 rfl zz16 rfl ?_
       intro w23 hS))
   refine bodyPost_ret (results_ct rfl _ _ g4 166 _ (0, 0) _ rfl (hS.blk 0) Try.underlying166 rfl zz5) rfl ?_
   exact ⟨by first | rfl | simp, (Sp.u zz25).below0⟩
 ·
  have c1 : (x == 0) = false := beq_eq_false_iff_ne.2 (fun h => c0 (.inl h))
  have c3 : decide (a1 < 48) = false := decide_eq_false (fun h => c0 (.inr (.inl h)))
  have c4 : decide (57 < a1) = false := decide_eq_false (fun h => c0 (.inr (.inr h)))
  rw [if_neg (fun h => c0 (.inl h)), if_neg (fun h => c0 (.inr (.inl h)))] at h
  simp only [gt_iff_lt, c4] at h
  obtain ⟨k, rfl⟩ : ∃ m, k = m + 3 := by
   refine ⟨k - 3, ?_⟩
   rcases k with _ | _ | _ | k
   ·
    simp [when_State_Push.j0] at h
   ·
    simp [when_State_Push.j0, when_State_Push.j1] at h
   ·
    simp [when_State_Push.j0, when_State_Push.j1, when_State_Push.j2] at h
   ·
    omega
  simp only [when_State_Push.j0, when_State_Push.j1, when_State_Push.j2, Option.bind_some, Bool.false_eq_true, if_false] at h
  obtain ⟨T, hT⟩ : ∃ T, strOfNums [a1] = T := ⟨_, rfl⟩
  rw [hT] at h
  cases c5 : (a0_0.toList == ([] : List UInt8)) <;> cases c6 : decide (53 ≤ a1) <;> cases a0_2
  all_goals
   try have d6 := of_decide_eq_true c6
   try have d6 := of_decide_eq_false c6
   simp only [c5, d6, ge_iff_le, if_true, if_false, Bool.false_eq_true, reduceIte] at h
   split at h
   case isFalse => cases h
  all_goals
   rename_i hz
   subst hT
   obtain ⟨bm, hm, h⟩ := Option.bind_eq_some_iff.1 h
   have HM := Aside0.mk (fun W => when_may.calls k _ bm W hm)
   have hz2 : 2 + (strOfNums [a1]).size ≤ 9223372036854775807 := by have : (strOfNums [a1]).size = 1 := strOfNums_size [a1]; omega
   have hz3 := Nat.not_lt.2 hz
   have hz4 := Nat.not_lt.2 hz2
   have hz5 : (⟨#[49, 57]⟩ : ByteArray).size = 2 := rfl
   have hz6 : (⟨#[50, 48]⟩ : ByteArray).size = 2 := rfl
   cases bm <;> simp only [Bool.false_eq_true, if_false, if_true] at h
  all_goals
   try
    obtain ⟨bl, hl, h⟩ := Option.bind_eq_some_iff.1 h
    have HL := Aside0.mk (fun W => when_late.calls k _ bl W hl)
    cases bl <;> simp only [Bool.false_eq_true, if_false, if_true] at h
  all_goals
   simp only [Option.some.injEq, Prod.mk.injEq] at h
   obtain ⟨rfl, rfl, rfl, rfl⟩ := h
   clear hx eb c0 d6 hm
   try clear hl
   go_enter Try.func117, Try.ntmps117
   go_wp2_with (first
    | ((with_reducible refine gate_dst (N := 2) rfl ?_)
       refine sp_box hS rfl (N := 2) rfl _ 166 zz1 ?_
       intro g2 w2 hg2 hS)
    | ((with_reducible refine gate_dst (N := 4) rfl ?_)
       refine sp_box hS rfl (N := 4) rfl _ 166 zz1 ?_
       intro g4 w4 hg4 hS
       obtain ⟨j0, j1, j2⟩ := hS.cells3 1)
    | ((with_reducible refine gate_store (t := 3) (p := 9) (v := .tmp 8) rfl ?_)
       refine sp_cell hS 1 rfl 3 (.tmp 9) (.tmp 8) rfl rfl g2 1 (.int .i64 _) rfl rfl 166 _ _ rfl zz5 zz19 rfl rfl rfl ?_
       clear j0 j1 j2
       intro w9 hS
       skip
       obtain ⟨j0, j1, j2⟩ := hS.cells3 1)
    | ((with_reducible refine gate_store (t := 9) (p := 31) (v := .const (.string (⟨#[50, 48]⟩ : ByteArray))) rfl ?_)
       refine sp_cell hS 1 rfl 9 (.tmp 31) (.const (.string (⟨#[50, 48]⟩ : ByteArray))) rfl rfl g2 0 (.string _) rfl rfl 166 _ _ rfl zz5 zz19 rfl rfl rfl ?_
       clear j0 j1 j2
       intro w31 hS
       skip
       obtain ⟨j0, j1, j2⟩ := hS.cells3 1)
    | ((with_reducible refine gate_store (t := 9) (p := 34) (v := .const (.string (⟨#[49, 57]⟩ : ByteArray))) rfl ?_)
       refine sp_cell hS 1 rfl 9 (.tmp 34) (.const (.string (⟨#[49, 57]⟩ : ByteArray))) rfl rfl g2 0 (.string _) rfl rfl 166 _ _ rfl zz5 zz19 rfl rfl rfl ?_
       clear j0 j1 j2
       intro w34 hS
       skip
       obtain ⟨j0, j1, j2⟩ := hS.cells3 1)
    | ((with_reducible refine gate_dst (N := 38) rfl ?_)
       refine sp_lit (Kd.int .u8) hS 5 rfl (N := 38) rfl [a1] [.int .u8 a1] zz1 (reps_one rfl rfl) zz19 ?_
       clear j0 j1 j2
       intro A3 c3 w38 hS
       have hk := convP (n := 1) hS 0 rfl rfl
       obtain ⟨j0, j1, j2⟩ := hS.cells3 2)
    | ((with_reducible refine gate_store (t := 9) (p := 41) (v := .tmp 40) rfl ?_)
       refine sp_cell hS 2 rfl 9 (.tmp 41) (.tmp 40) rfl rfl g2 0 (.string _) rfl rfl 166 _ _ rfl zz5 zz19 rfl rfl rfl ?_
       clear j0 j1 j2
       intro w41 hS
       have hS0 := hS; clear hS; have hS := Sp.sel (l2 := [blk g4 _ _, blk g2 _ _]) hS0 [1, 2]; clear hS0
       obtain ⟨j0, j1, j2⟩ := hS.cells3 1)
    | (go_at_call 118
       (with_reducible refine (HM.out _).mono ?_)
       rintro e wm ⟨rfl, hq⟩
       replace hS := hS.toN (dr hq)
       clear j0 j1 j2
       obtain ⟨j0, j1, j2⟩ := hS.cells3 1)
    | (go_at_call 119
       (with_reducible refine (HL.out _).mono ?_)
       rintro e wm ⟨rfl, hq⟩
       replace hS := hS.toN (dr hq)
       clear j0 j1 j2
       obtain ⟨j0, j1, j2⟩ := hS.cells3 1)
    | ((with_reducible refine gate_store (t := 166) (p := 4) (v := .tmp 57) rfl ?_)
       refine sp_row hS 0 rfl 166 (.tmp 4) (.tmp 57) rfl rfl g4 _ rfl rfl 166 _ rfl zz5 rfl zz16 rfl ?_
       intro w57 hS)
    | ((with_reducible refine gate_store (t := 166) (p := 4) (v := .tmp 58) rfl ?_)
       refine sp_row hS 0 rfl 166 (.tmp 4) (.tmp 58) rfl rfl g4 _ rfl rfl 166 _ rfl zz5 rfl zz16 rfl ?_
       intro w58 hS))
   refine bodyPost_ret (results_ct rfl _ _ g4 166 _ (0, 0) _ rfl (hS.blk 0) Try.underlying166 rfl zz5) rfl ?_
   exact ⟨by first | rfl | simp, (Sp.u zz25).below0⟩
end Go.Proofs.Ytcfommconnlhgaa.PC
