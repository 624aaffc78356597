/- What the row of GrammarFront stands on, made small by a program of this session (pack.py). -/
import Derived.Test.YtcfommconnlhgaaCGrammarFront2
import Derived.Test.YtcfommconnlhgaaCGrammarFront4
import Derived.Test.YtcfommconnlhgaaCGrammarFront5
namespace Go.Proofs.Ytcfommconnlhgaa.PC
open Own Sl
open RowKit YtcfommconnlhgaaW.PrintWords YtcfommconnlhgaaW.PrintLast YtcfommconnlhgaaW.PrintMore
attribute [local go_sem] max2_int min2_int max_two min_two max_three min_three max_four min_four
set_option linter.unusedVariables false
set_option linter.unusedSimpArgs false
def number_Start.j0 : Nat → Int → Int → Bool → Int → Bool → Option (Int × Int × Int × Int × Bool)
 | 0, _, _, _, _, _ => none
 | k + 1, x0, x1, x6, x9, x10 => if x10 = true then (if x1 > 0 then (some (x0, x1, 0, 0, true)) else (some (0, 0, 0, 0, false))) else (if x9 = 1 then (if x1 = 1 then (some (x0, x1, 0, 0, true)) else (some (0, 0, 0, 0, false))) else (if x9 = 5 then (if x1 = 0 then (some (x0, x1, 0, 0, true)) else (some (0, 0, 0, 0, false))) else (if x6 = true then (some (x0, x1, 0, 0, true)) else (some (0, 0, 0, 0, false)))))
def number_Start.f (k : Nat) (a0 : Int) (a1 : Int) : Option (Int × Int × Int × Int × Bool) := if a0 = 2 then (number_Start.j0 k a0 a1 (decide (a1 ≥ 0)) a0 (a0 == 2)) else (number_Start.j0 k a0 a1 (decide (a1 ≥ 0)) a0 (a0 == 10))
set_option maxHeartbeats 8000000 in
set_option maxRecDepth 100000 in
theorem number_Start.calls (k : Nat) (a0 : Int) (a1 : Int) (r1 : Int) (r2 : Int) (r3 : Int) (r4 : Int) (r5 : Bool) (w : World) (h : number_Start.f k a0 a1 = some (r1, r2, r3, r4, r5)) :
 Calls Try.prog 75 #[.int .i64 a0, .int .i64 a1] w fun e w' => e = .returned (.tuple #[.agg #[.int .i64 r1, .int .i64 r2, .int .i64 r3, .int .u8 r4], .bool r5]) ∧ Below w.heap.size w w' := by
 have hS := Sp.nil (w := w) (S := None0)
 have hu := Try.underlying151
 have eb : ∀ a b : Int, (a = b) = ((a == b) = true) := fun a b => by simp
 cases k with
 | zero => simp [number_Start.f, number_Start.j0] at h
 | succ k =>
 simp only [number_Start.f, number_Start.j0] at h
 cases c1 : (a0 == 2) <;> cases c2 : (a0 == 10) <;> cases c3 : (a0 == 1) <;> cases c4 : (a0 == 5) <;> cases c5 : decide (0 < a1) <;> cases c6 : (a1 == 1) <;> cases c7 : (a1 == 0) <;> cases c8 : decide (0 ≤ a1)
 all_goals
  try (exfalso; simp only [beq_iff_eq, beq_eq_false_iff_ne, ne_eq, decide_eq_true_eq, decide_eq_false_iff_not] at *; omega)
 all_goals
  have d5 := c5
  simp only [decide_eq_true_eq, decide_eq_false_iff_not] at d5
  simp only [eb a0 2, eb a0 10, eb a0 1, eb a0 5, eb a1 1, eb a1 0, c1, c2, c3, c4, d5, c6, c7, c8, ge_iff_le, gt_iff_lt, if_true, if_false, Bool.false_eq_true, Option.some.injEq, Prod.mk.injEq, reduceIte] at h
  obtain ⟨rfl, rfl, rfl, rfl, rfl⟩ := h
  clear eb d5
  go_enter Try.func75, Try.ntmps75
  go_wp2_with (first
   | ((with_reducible refine gate_dst (N := 4) rfl ?_)
      refine sp_box hS rfl (N := 4) rfl _ 151 zz1 ?_
      intro g4 w4 hg4 hS)
   | ((with_reducible refine gate_store (t := 151) (p := 4) (v := .tmp 25) rfl ?_)
      refine sp_row hS 0 rfl 151 (.tmp 4) (.tmp 25) rfl rfl g4 _ rfl rfl 151 _ rfl zz5 rfl zz16 rfl ?_
      intro w25 hS)
   | ((with_reducible refine gate_store (t := 151) (p := 4) (v := .tmp 28) rfl ?_)
      refine sp_row hS 0 rfl 151 (.tmp 4) (.tmp 28) rfl rfl g4 _ rfl rfl 151 _ rfl zz5 rfl zz16 rfl ?_
      intro w28 hS))
  refine bodyPost_ret (results_ct rfl _ _ g4 151 _ (0, 0) _ rfl (hS.blk 0) Try.underlying151 rfl zz5) rfl ?_
  exact ⟨by first | rfl | simp, (Sp.u zz25).below0⟩
end Go.Proofs.Ytcfommconnlhgaa.PC
namespace Go.Proofs.Ytcfommconnlhgaa.PC
open Own Sl
open RowKit YtcfommconnlhgaaW.PrintWords YtcfommconnlhgaaW.PrintLast YtcfommconnlhgaaW.PrintMore
attribute [local go_sem] max2_int min2_int max_two min_two max_three min_three max_four min_four
set_option linter.unusedVariables false
set_option linter.unusedSimpArgs false
def number_State_Push.j0 : Nat → Int → Bool → Int → Int → Int → Int → Option (Int × Int × Int × Int × Bool)
 | 0, _, _, _, _, _, _ => none
 | k + 1, x1, x6, x131000, x131001, x131002, x131003 => if x6 = true then (if x131002 = 0 then (some (x131000, x131001, wrap64 (x131002 + 1), x1, true)) else (some (x131000, x131001, wrap64 (x131002 + 1), x131003, true))) else (some (0, 0, 0, 0, false))
def number_State_Push.f (k : Nat) (a0_0 : Int) (a0_1 : Int) (a0_2 : Int) (a0_3 : Int) (a1 : Int) : Option (Int × Int × Int × Int × Bool) := if a0_0 = 1 then (if a1 = 0 then (number_State_Push.j0 k a1 true a0_0 a0_1 a0_2 a0_3) else (number_State_Push.j0 k a1 (a1 == 255) a0_0 a0_1 a0_2 a0_3)) else (if a0_0 = 2 then (if a0_2 = 1 then (if a0_3 = 0 then (if a1 < 128 then (number_State_Push.j0 k a1 (!true) a0_0 a0_1 a0_2 a0_3) else (if a0_3 = 255 then (number_State_Push.j0 k a1 (!(decide (a1 ≥ 128))) a0_0 a0_1 a0_2 a0_3) else (number_State_Push.j0 k a1 (!false) a0_0 a0_1 a0_2 a0_3))) else (if a0_3 = 255 then (number_State_Push.j0 k a1 (!(decide (a1 ≥ 128))) a0_0 a0_1 a0_2 a0_3) else (number_State_Push.j0 k a1 (!false) a0_0 a0_1 a0_2 a0_3))) else (number_State_Push.j0 k a1 true a0_0 a0_1 a0_2 a0_3)) else (if a0_0 = 10 then (if a0_2 = 1 then (if a0_3 = 0 then (if a1 < 128 then (number_State_Push.j0 k a1 (!true) a0_0 a0_1 a0_2 a0_3) else (if a0_3 = 255 then (number_State_Push.j0 k a1 (!(decide (a1 ≥ 128))) a0_0 a0_1 a0_2 a0_3) else (number_State_Push.j0 k a1 (!false) a0_0 a0_1 a0_2 a0_3))) else (if a0_3 = 255 then (number_State_Push.j0 k a1 (!(decide (a1 ≥ 128))) a0_0 a0_1 a0_2 a0_3) else (number_State_Push.j0 k a1 (!false) a0_0 a0_1 a0_2 a0_3))) else (number_State_Push.j0 k a1 true a0_0 a0_1 a0_2 a0_3)) else (number_State_Push.j0 k a1 true a0_0 a0_1 a0_2 a0_3)))
set_option maxHeartbeats 8000000 in
set_option maxRecDepth 100000 in
theorem number_State_Push.calls (k : Nat) (a0_0 : Int) (a0_1 : Int) (a0_2 : Int) (a0_3 : Int) (a1 : Int) (r1 : Int) (r2 : Int) (r3 : Int) (r4 : Int) (r5 : Bool) (w : World) (h : number_State_Push.f k a0_0 a0_1 a0_2 a0_3 a1 = some (r1, r2, r3, r4, r5)) :
 Calls Try.prog 114 #[.agg #[.int .i64 a0_0, .int .i64 a0_1, .int .i64 a0_2, .int .u8 a0_3], .int .u8 a1] w fun e w' => e = .returned (.tuple #[.agg #[.int .i64 r1, .int .i64 r2, .int .i64 r3, .int .u8 r4], .bool r5]) ∧ Below w.heap.size w w' := by
 have hS := Sp.nil (w := w) (S := None0)
 have hu := Try.underlying151
 have eb : ∀ a b : Int, (a = b) = ((a == b) = true) := fun a b => by simp
 cases k with
 | zero => simp [number_State_Push.f, number_State_Push.j0] at h
 | succ k =>
 simp only [number_State_Push.f, number_State_Push.j0] at h
 obtain ⟨x, hx⟩ : ∃ x, wrap64 (a0_2 + 1) = x := ⟨_, rfl⟩
 have hx2 : IntKind.i64.wrap (a0_2 + 1) = x := by rw [← hx]; exact i64_w _
 rw [hx] at h
 by_cases k1 : a0_0 = 1
 case' pos => (cases c8 : (a1 == 0) <;> cases c9 : (a1 == 255))
 case' neg =>
  by_cases k2 : (a0_0 = 2 ∨ a0_0 = 10) ∧ a0_2 = 1
  case' pos => (cases c6 : (a0_3 == 0) <;> cases c7 : (a0_3 == 255) <;> cases c10 : decide (a1 < 128) <;> cases c11 : decide (128 ≤ a1))
 all_goals (cases c1 : (a0_0 == 1) <;> cases c2 : (a0_0 == 2) <;> cases c3 : (a0_0 == 10) <;> cases c4 : (a0_2 == 1) <;> cases c5 : (a0_2 == 0))
 all_goals
  try (exfalso; clear hx hx2 h; simp only [beq_iff_eq, beq_eq_false_iff_ne, ne_eq, decide_eq_true_eq, decide_eq_false_iff_not] at *; omega)
 all_goals
  try have d10 := of_decide_eq_true c10
  try have d10 := of_decide_eq_false c10
  try have d11 := of_decide_eq_true c11
  try have d11 := of_decide_eq_false c11
  first
   | simp only [eb a0_0 1, eb a0_0 2, eb a0_0 10, eb a0_2 1, eb a0_2 0, eb a0_3 0, eb a0_3 255, eb a1 0, ge_iff_le, Bool.not_true, Bool.not_false, if_true, if_false, Bool.false_eq_true, Option.some.injEq, Prod.mk.injEq, reduceIte, c1, c2, c3, c4, c5, c8, c9] at h
   | simp only [eb a0_0 1, eb a0_0 2, eb a0_0 10, eb a0_2 1, eb a0_2 0, eb a0_3 0, eb a0_3 255, eb a1 0, ge_iff_le, Bool.not_true, Bool.not_false, if_true, if_false, Bool.false_eq_true, Option.some.injEq, Prod.mk.injEq, reduceIte, c1, c2, c3, c4, c5, c6, c7, d10, d11, c11] at h
   | simp only [eb a0_0 1, eb a0_0 2, eb a0_0 10, eb a0_2 1, eb a0_2 0, eb a0_3 0, eb a0_3 255, eb a1 0, ge_iff_le, Bool.not_true, Bool.not_false, if_true, if_false, Bool.false_eq_true, Option.some.injEq, Prod.mk.injEq, reduceIte, c1, c2, c3, c4, c5] at h
  obtain ⟨rfl, rfl, rfl, rfl, rfl⟩ := h
  clear hx eb
  try clear d10
  try clear d11
  clear k1
  try clear k2
  go_enter Try.func114, Try.ntmps114
  go_wp2_with (first
   | ((with_reducible refine gate_dst (N := 2) rfl ?_)
      refine sp_box hS rfl (N := 2) rfl _ 151 zz1 ?_
      intro g2 w2 hg2 hS)
   | ((with_reducible refine gate_dst (N := 4) rfl ?_)
      refine sp_box hS rfl (N := 4) rfl _ 151 zz1 ?_
      intro g4 w4 hg4 hS
      obtain ⟨j0, j1, j2, j3⟩ := hS.cells4 1)
   | ((with_reducible refine gate_store (t := 151) (p := 4) (v := .tmp 50) rfl ?_)
      refine sp_row hS 0 rfl 151 (.tmp 4) (.tmp 50) rfl rfl g4 _ rfl rfl 151 _ rfl zz5 rfl zz16 rfl ?_
      intro w50 hS)
   | ((with_reducible refine gate_store (t := 5) (p := 55) (v := .tmp 54) rfl ?_)
      refine sp_cell hS 1 rfl 5 (.tmp 55) (.tmp 54) rfl rfl g2 3 (.int .u8 a1) rfl rfl 151 _ _ rfl zz5 zz19 rfl rfl rfl ?_
      clear j0 j1 j2 j3
      intro w55 hS
      obtain ⟨j0, j1, j2, j3⟩ := hS.cells4 1)
   | ((with_reducible refine gate_store (t := 3) (p := 59) (v := .tmp 58) rfl ?_)
      refine sp_cell hS 1 rfl 3 (.tmp 59) (.tmp 58) rfl rfl g2 2 (.int .i64 _) rfl rfl 151 _ _ rfl zz5 zz19 rfl rfl rfl ?_
      clear j0 j1 j2 j3
      intro w59 hS
      obtain ⟨j0, j1, j2, j3⟩ := hS.cells4 1)
   | ((with_reducible refine gate_store (t := 151) (p := 4) (v := .tmp 60) rfl ?_)
      refine sp_row hS 0 rfl 151 (.tmp 4) (.tmp 60) rfl rfl g4 _ rfl rfl 151 _ rfl zz5 rfl zz16 rfl ?_
      intro w60 hS))
  refine bodyPost_ret (results_ct rfl _ _ g4 151 _ (0, 0) _ rfl (hS.blk 0) Try.underlying151 rfl zz5) rfl ?_
  exact ⟨by first | rfl | simp, (Sp.u zz25).below0⟩
end Go.Proofs.Ytcfommconnlhgaa.PC
