/- What the row of ValuePushes stands on, made small by a program of this session (pack.py). -/
import Derived.Test.YtpfconocipmcjaaCValuePushes2
import Derived.Test.YtpfconocipmcjaaCValuePushes4
import Derived.Test.YtpfconocipmcjaaCValuePushes5
namespace Go.Proofs.Ytpfconocipmcjaa.PC
open Own Sl
open RowKit YtpfconocipmcjaaW.PrintWords YtpfconocipmcjaaW.PrintLast YtpfconocipmcjaaW.PrintMore
attribute [local go_sem] max2_int min2_int max_two min_two max_three min_three max_four min_four
set_option linter.unusedVariables false
set_option linter.unusedSimpArgs false
def number_Start.j0 : Nat → Int → Int → Bool → Int → Bool → Option (Int × Int × Int × Int × Bool)
 | 0, _, _, _, _, _ => none
 | k + 1, x0, x1, x6, x9, x10 => if x10 = true then (if x1 > 0 then (some (x0, x1, 0, 0, true)) else (some (0, 0, 0, 0, false))) else (if x9 = 1 then (if x1 = 1 then (some (x0, x1, 0, 0, true)) else (some (0, 0, 0, 0, false))) else (if x9 = 5 then (if x1 = 0 then (some (x0, x1, 0, 0, true)) else (some (0, 0, 0, 0, false))) else (if x6 = true then (some (x0, x1, 0, 0, true)) else (some (0, 0, 0, 0, false)))))
def number_Start.f (k : Nat) (a0 : Int) (a1 : Int) : Option (Int × Int × Int × Int × Bool) := if a0 = 2 then (number_Start.j0 k a0 a1 (decide (a1 ≥ 0)) a0 (a0 == 2)) else (number_Start.j0 k a0 a1 (decide (a1 ≥ 0)) a0 (a0 == 10))
set_option maxHeartbeats 8000000 in
set_option maxRecDepth 100000 in
theorem number_Start.calls (k : Nat) (a0 : Int) (a1 : Int) (r1 : Int) (r2 : Int) (r3 : Int) (r4 : Int) (r5 : Bool) (w : World) (h : number_Start.f k a0 a1 = some (r1, r2, r3, r4, r5)) :
 Calls Try.prog 46 #[.int .i64 a0, .int .i64 a1] w fun e w' => e = .returned (.tuple #[.agg #[.int .i64 r1, .int .i64 r2, .int .i64 r3, .int .u8 r4], .bool r5]) ∧ Below w.heap.size w w' := by
 have hS := Sp.nil (w := w) (S := None0)
 have hu := Try.underlying81
 have eb : ∀ a b : Int, (a = b) = ((a == b) = true) := fun a b => by simp
 cases k with
 | zero => simp [number_Start.f, number_Start.j0] at h
 | succ k =>
 simp only [number_Start.f, number_Start.j0] at h
 cases c1 : (a0 == 2) <;> cases c2 : (a0 == 10) <;> cases c3 : (a0 == 1) <;> cases c4 : (a0 == 5) <;> cases c5 : decide (0 < a1) <;> cases c6 : (a1 == 1) <;> cases c7 : (a1 == 0) <;> cases c8 : decide (0 ≤ a1)
 all_goals
  try (exfalso; simp only [beq_iff_eq, beq_eq_false_iff_ne, ne_eq, decide_eq_true_eq, decide_eq_false_iff_not] at *; omega)
 all_goals
  have d5 := c5
  simp only [decide_eq_true_eq, decide_eq_false_iff_not] at d5
  simp only [eb a0 2, eb a0 10, eb a0 1, eb a0 5, eb a1 1, eb a1 0, c1, c2, c3, c4, d5, c6, c7, c8, ge_iff_le, gt_iff_lt, if_true, if_false, Bool.false_eq_true, Option.some.injEq, Prod.mk.injEq, reduceIte] at h
  obtain ⟨rfl, rfl, rfl, rfl, rfl⟩ := h
  clear eb d5
  go_enter Try.func46, Try.ntmps46
  go_wp2_with (first
   | ((with_reducible refine gate_dst (N := 4) rfl ?_)
      refine sp_box hS rfl (N := 4) rfl _ 81 zz10 ?_
      intro g4 w4 hg4 hS)
   | ((with_reducible refine gate_store (t := 81) (p := 4) (v := .tmp 25) rfl ?_)
      refine sp_row hS 0 rfl 81 (.tmp 4) (.tmp 25) rfl rfl g4 _ rfl rfl 81 _ rfl zz8 rfl zz17 rfl ?_
      intro w25 hS)
   | ((with_reducible refine gate_store (t := 81) (p := 4) (v := .tmp 28) rfl ?_)
      refine sp_row hS 0 rfl 81 (.tmp 4) (.tmp 28) rfl rfl g4 _ rfl rfl 81 _ rfl zz8 rfl zz17 rfl ?_
      intro w28 hS))
  refine bodyPost_ret (results_ct rfl _ _ g4 81 _ (0, 0) _ rfl (hS.blk 0) Try.underlying81 rfl zz8) rfl ?_
  exact ⟨by first | rfl | simp, (Sp.u zz52).below0⟩
end Go.Proofs.Ytpfconocipmcjaa.PC
namespace Go.Proofs.Ytpfconocipmcjaa.PC
open Own Sl
open RowKit YtpfconocipmcjaaW.PrintWords YtpfconocipmcjaaW.PrintLast YtpfconocipmcjaaW.PrintMore
attribute [local go_sem] max2_int min2_int max_two min_two max_three min_three max_four min_four
set_option linter.unusedVariables false
set_option linter.unusedSimpArgs false
def number_State_Push.j0 : Nat → Int → Bool → Int → Int → Int → Int → Option (Int × Int × Int × Int × Bool)
 | 0, _, _, _, _, _, _ => none
 | k + 1, x1, x6, x178000, x178001, x178002, x178003 => if x6 = true then (if x178002 = 0 then (some (x178000, x178001, wrap64 (x178002 + 1), x1, true)) else (some (x178000, x178001, wrap64 (x178002 + 1), x178003, true))) else (some (0, 0, 0, 0, false))
def number_State_Push.f (k : Nat) (a0_0 : Int) (a0_1 : Int) (a0_2 : Int) (a0_3 : Int) (a1 : Int) : Option (Int × Int × Int × Int × Bool) := if a0_0 = 1 then (if a1 = 0 then (number_State_Push.j0 k a1 true a0_0 a0_1 a0_2 a0_3) else (number_State_Push.j0 k a1 (a1 == 255) a0_0 a0_1 a0_2 a0_3)) else (if a0_0 = 2 then (if a0_2 = 1 then (if a0_3 = 0 then (if a1 < 128 then (number_State_Push.j0 k a1 (!true) a0_0 a0_1 a0_2 a0_3) else (if a0_3 = 255 then (number_State_Push.j0 k a1 (!(decide (a1 ≥ 128))) a0_0 a0_1 a0_2 a0_3) else (number_State_Push.j0 k a1 (!false) a0_0 a0_1 a0_2 a0_3))) else (if a0_3 = 255 then (number_State_Push.j0 k a1 (!(decide (a1 ≥ 128))) a0_0 a0_1 a0_2 a0_3) else (number_State_Push.j0 k a1 (!false) a0_0 a0_1 a0_2 a0_3))) else (number_State_Push.j0 k a1 true a0_0 a0_1 a0_2 a0_3)) else (if a0_0 = 10 then (if a0_2 = 1 then (if a0_3 = 0 then (if a1 < 128 then (number_State_Push.j0 k a1 (!true) a0_0 a0_1 a0_2 a0_3) else (if a0_3 = 255 then (number_State_Push.j0 k a1 (!(decide (a1 ≥ 128))) a0_0 a0_1 a0_2 a0_3) else (number_State_Push.j0 k a1 (!false) a0_0 a0_1 a0_2 a0_3))) else (if a0_3 = 255 then (number_State_Push.j0 k a1 (!(decide (a1 ≥ 128))) a0_0 a0_1 a0_2 a0_3) else (number_State_Push.j0 k a1 (!false) a0_0 a0_1 a0_2 a0_3))) else (number_State_Push.j0 k a1 true a0_0 a0_1 a0_2 a0_3)) else (number_State_Push.j0 k a1 true a0_0 a0_1 a0_2 a0_3)))
set_option maxHeartbeats 8000000 in
set_option maxRecDepth 100000 in
theorem number_State_Push.calls (k : Nat) (a0_0 : Int) (a0_1 : Int) (a0_2 : Int) (a0_3 : Int) (a1 : Int) (r1 : Int) (r2 : Int) (r3 : Int) (r4 : Int) (r5 : Bool) (w : World) (h : number_State_Push.f k a0_0 a0_1 a0_2 a0_3 a1 = some (r1, r2, r3, r4, r5)) :
 Calls Try.prog 101 #[.agg #[.int .i64 a0_0, .int .i64 a0_1, .int .i64 a0_2, .int .u8 a0_3], .int .u8 a1] w fun e w' => e = .returned (.tuple #[.agg #[.int .i64 r1, .int .i64 r2, .int .i64 r3, .int .u8 r4], .bool r5]) ∧ Below w.heap.size w w' := by
 have hS := Sp.nil (w := w) (S := None0)
 have hu := Try.underlying81
 have eb : ∀ a b : Int, (a = b) = ((a == b) = true) := fun a b => by simp
 cases k with
 | zero => simp [number_State_Push.f, number_State_Push.j0] at h
 | succ k =>
 simp only [number_State_Push.f, number_State_Push.j0] at h
 obtain ⟨x, hx⟩ : ∃ x, wrap64 (a0_2 + 1) = x := ⟨_, rfl⟩
 have hx2 : IntKind.i64.wrap (a0_2 + 1) = x := by rw [← hx]; exact i64_w _
 rw [hx] at h
 by_cases k1 : a0_0 = 1
 case' pos => (cases c8 : (a1 == 0) <;> cases c9 : (a1 == 255))
 case' neg =>
  by_cases k2 : (a0_0 = 2 ∨ a0_0 = 10) ∧ a0_2 = 1
  case' pos => (cases c6 : (a0_3 == 0) <;> cases c7 : (a0_3 == 255) <;> cases c10 : decide (a1 < 128) <;> cases c11 : decide (128 ≤ a1))
 all_goals (cases c1 : (a0_0 == 1) <;> cases c2 : (a0_0 == 2) <;> cases c3 : (a0_0 == 10) <;> cases c4 : (a0_2 == 1) <;> cases c5 : (a0_2 == 0))
 all_goals
  try (exfalso; clear hx hx2 h; simp only [beq_iff_eq, beq_eq_false_iff_ne, ne_eq, decide_eq_true_eq, decide_eq_false_iff_not] at *; omega)
 all_goals
  try have d10 := of_decide_eq_true c10
  try have d10 := of_decide_eq_false c10
  try have d11 := of_decide_eq_true c11
  try have d11 := of_decide_eq_false c11
  first
   | simp only [eb a0_0 1, eb a0_0 2, eb a0_0 10, eb a0_2 1, eb a0_2 0, eb a0_3 0, eb a0_3 255, eb a1 0, ge_iff_le, Bool.not_true, Bool.not_false, if_true, if_false, Bool.false_eq_true, Option.some.injEq, Prod.mk.injEq, reduceIte, c1, c2, c3, c4, c5, c8, c9] at h
   | simp only [eb a0_0 1, eb a0_0 2, eb a0_0 10, eb a0_2 1, eb a0_2 0, eb a0_3 0, eb a0_3 255, eb a1 0, ge_iff_le, Bool.not_true, Bool.not_false, if_true, if_false, Bool.false_eq_true, Option.some.injEq, Prod.mk.injEq, reduceIte, c1, c2, c3, c4, c5, c6, c7, d10, d11, c11] at h
   | simp only [eb a0_0 1, eb a0_0 2, eb a0_0 10, eb a0_2 1, eb a0_2 0, eb a0_3 0, eb a0_3 255, eb a1 0, ge_iff_le, Bool.not_true, Bool.not_false, if_true, if_false, Bool.false_eq_true, Option.some.injEq, Prod.mk.injEq, reduceIte, c1, c2, c3, c4, c5] at h
  obtain ⟨rfl, rfl, rfl, rfl, rfl⟩ := h
  clear hx eb
  try clear d10
  try clear d11
  clear k1
  try clear k2
  go_enter Try.func101, Try.ntmps101
  go_wp2_with (first
   | ((with_reducible refine gate_dst (N := 2) rfl ?_)
      refine sp_box hS rfl (N := 2) rfl _ 81 zz10 ?_
      intro g2 w2 hg2 hS)
   | ((with_reducible refine gate_dst (N := 4) rfl ?_)
      refine sp_box hS rfl (N := 4) rfl _ 81 zz10 ?_
      intro g4 w4 hg4 hS
      obtain ⟨j0, j1, j2, j3⟩ := hS.cells4 1)
   | ((with_reducible refine gate_store (t := 81) (p := 4) (v := .tmp 50) rfl ?_)
      refine sp_row hS 0 rfl 81 (.tmp 4) (.tmp 50) rfl rfl g4 _ rfl rfl 81 _ rfl zz8 rfl zz17 rfl ?_
      intro w50 hS)
   | ((with_reducible refine gate_store (t := 5) (p := 55) (v := .tmp 54) rfl ?_)
      refine sp_cell hS 1 rfl 5 (.tmp 55) (.tmp 54) rfl rfl g2 3 (.int .u8 a1) rfl rfl 81 _ _ rfl zz8 zz29 rfl rfl rfl ?_
      clear j0 j1 j2 j3
      intro w55 hS
      obtain ⟨j0, j1, j2, j3⟩ := hS.cells4 1)
   | ((with_reducible refine gate_store (t := 3) (p := 59) (v := .tmp 58) rfl ?_)
      refine sp_cell hS 1 rfl 3 (.tmp 59) (.tmp 58) rfl rfl g2 2 (.int .i64 _) rfl rfl 81 _ _ rfl zz8 zz29 rfl rfl rfl ?_
      clear j0 j1 j2 j3
      intro w59 hS
      obtain ⟨j0, j1, j2, j3⟩ := hS.cells4 1)
   | ((with_reducible refine gate_store (t := 81) (p := 4) (v := .tmp 60) rfl ?_)
      refine sp_row hS 0 rfl 81 (.tmp 4) (.tmp 60) rfl rfl g4 _ rfl rfl 81 _ rfl zz8 rfl zz17 rfl ?_
      intro w60 hS))
  refine bodyPost_ret (results_ct rfl _ _ g4 81 _ (0, 0) _ rfl (hS.blk 0) Try.underlying81 rfl zz8) rfl ?_
  exact ⟨by first | rfl | simp, (Sp.u zz52).below0⟩
end Go.Proofs.Ytpfconocipmcjaa.PC
namespace Go.Proofs.Ytpfconocipmcjaa.PC
open Own Sl
open RowKit YtpfconocipmcjaaW.PrintWords YtpfconocipmcjaaW.PrintLast YtpfconocipmcjaaW.PrintMore
attribute [local go_sem] max2_int min2_int max_two min_two max_three min_three max_four min_four
set_option linter.unusedVariables false
set_option linter.unusedSimpArgs false
def gantletref10_Wrong.j0 : Nat → Int → ByteArray → Bool → Option (Int)
 | 0, _, _, _ => none
 | k + 1, x1, x2, x35 => if x35 = true then (some (-1)) else (if x1 = 0 then (some 0) else (if (x2.size : Int) > 1 then (if 0 < (x2.size : Int) then (if (bt x2 0) = 0 then (if 1 < (x2.size : Int) then (if (bt x2 1) < 128 then (some 2) else (if (bt x2 0) = 255 then (if (bt x2 1) > 127 then (some 2) else (some (-1))) else (some (-1)))) else (none)) else (if (bt x2 0) = 255 then (if 1 < (x2.size : Int) then (if (bt x2 1) > 127 then (some 2) else (some (-1))) else (none)) else (some (-1)))) else (none)) else (some (-1))))
def gantletref10_Wrong.f (k : Nat) (a0 : Int) (a1 : Int) (a2 : ByteArray) : Option (Int) := if a1 < 0 then (some 0) else (if a0 = 5 then (if a1 = 0 then (some (-1)) else (some 0)) else (if a0 = 1 then (if a1 = 1 then (if (a2.size : Int) > 0 then (if 0 < (a2.size : Int) then (if (bt a2 0) = 0 then (some (-1)) else (if (bt a2 0) = 255 then (some (-1)) else (some 1))) else (none)) else (some (-1))) else (some 0)) else (if a0 = 2 then (gantletref10_Wrong.j0 k a1 a2 false) else (gantletref10_Wrong.j0 k a1 a2 (a0 != 10)))))
set_option maxHeartbeats 8000000 in
set_option maxRecDepth 100000 in
theorem gantletref10_Wrong.calls (k : Nat) (a0 : Int) (a1 : Int) (a2 : ByteArray) (r : Int) (w : World) (h : gantletref10_Wrong.f k a0 a1 a2 = some r) :
 Calls Try.prog 29 #[.int .i64 a0, .int .i64 a1, .string a2] w fun e w' => e = .returned (.int .i64 r) ∧ Drawn0 w w' := by
 have eb : ∀ a b : Int, (a = b) = ((a == b) = true) := fun a b => by simp
 have hx0 : ∀ h : 0 < a2.size, ((a2[0]'h).toNat : Int) = bt a2 0 := bt_at a2 0
 have hx1 : ∀ h : 1 < a2.size, ((a2[1]'h).toNat : Int) = bt a2 1 := bt_at a2 1
 have s0 : ∀ b, decide (0 < a2.size) = b → decide ((0 : Int) < (a2.size : Int)) = b := fun b h => by rw [← h]; exact decide_eq_decide.2 zz3
 have s1 : ∀ b, decide (1 < a2.size) = b → decide ((1 : Int) < (a2.size : Int)) = b := fun b h => by rw [← h]; exact decide_eq_decide.2 zz3
 have s2 : ∀ b, decide (bt a2 1 < 128) = b → decide (127 < bt a2 1) = !b := fun b h => by cases b <;> simp only [decide_eq_true_eq, decide_eq_false_iff_not, Bool.not_true, Bool.not_false] at h ⊢ <;> omega
 unfold gantletref10_Wrong.f at h
 cases c1 : decide (a1 < 0) <;> cases c2 : (a0 == 5) <;> cases c7 : (a0 == 1) <;> cases c10 : (a0 == 2) <;> cases c11 : (a0 == 10)
 all_goals
  try (exfalso; clear h; simp only [beq_iff_eq, beq_eq_false_iff_ne] at c2 c7 c10 c11; omega)
 all_goals
  cases c3 : (a1 == 0) <;> cases c4 : (a1 == 1)
 all_goals
  try (exfalso; clear h; simp only [beq_iff_eq, beq_eq_false_iff_ne, decide_eq_true_eq, decide_eq_false_iff_not] at c1 c3 c4; omega)
 all_goals
  have b2 : (a0 != 2) = !(a0 == 2) := rfl
  have b10 : (a0 != 10) = !(a0 == 10) := rfl
  have n1 : (a1 != 1) = !(a1 == 1) := rfl
  rw [c10] at b2
  rw [c11] at b10
  rw [c4] at n1
  simp only [Bool.not_true, Bool.not_false] at b2 b10 n1
  have d1 := c1
  simp only [decide_eq_true_eq, decide_eq_false_iff_not] at d1
  rcases k with _ | k <;> simp only [eb a0 5, eb a0 1, eb a0 2, eb a1 0, eb a1 1, bne, c2, c3, c4, c7, c10, c11, d1, gantletref10_Wrong.j0, Bool.not_true, Bool.not_false, gt_iff_lt, if_true, if_false, Bool.false_eq_true, reduceIte, reduceCtorEq] at h
 all_goals
  try
   (obtain rfl := Option.some.inj h
    clear hx0 hx1 s0 s1 s2 d1 eb
    go_enter Try.func29, Try.ntmps29
    go_wp2
    go_ret
    exact ⟨rfl, zz1⟩)
 all_goals
  cases c5 : decide (0 < a2.size) <;> cases c6 : decide (1 < a2.size)
 all_goals
  try (exfalso; clear h; simp only [decide_eq_true_eq, decide_eq_false_iff_not] at c5 c6; omega)
 all_goals
  have z0 := s0 _ c5
  have z1 := s1 _ c6
  have y0 := z0
  have y1 := z1
  simp only [decide_eq_true_eq, decide_eq_false_iff_not] at y0 y1
  have q0 := c5
  have q1 := c6
  simp only [decide_eq_true_eq, decide_eq_false_iff_not] at q0 q1
  simp only [y0, y1, gt_iff_lt, if_true, if_false, Bool.false_eq_true, reduceIte, reduceCtorEq] at h
  clear s0 s1
  try replace q0 := eq_true q0
  try replace q1 := eq_true q1
  try replace y0 := eq_true y0
  try replace y1 := eq_true y1
 all_goals
  try
   (obtain rfl := Option.some.inj h
    go_enter Try.func29, Try.ntmps29
    go_wp2
    go_ret
    exact ⟨rfl, zz1⟩)
 all_goals
  cases c8 : (bt a2 0 == 0) <;> cases c9 : (bt a2 0 == 255)
 all_goals
  try (exfalso; clear h; simp only [beq_iff_eq, beq_eq_false_iff_ne] at c8 c9; omega)
 all_goals
  have n0 : (bt a2 0 != 0) = !(bt a2 0 == 0) := rfl
  have n255 : (bt a2 0 != 255) = !(bt a2 0 == 255) := rfl
  rw [c8] at n0
  rw [c9] at n255
  simp only [Bool.not_true, Bool.not_false] at n0 n255
  simp only [eb (bt a2 0) 0, eb (bt a2 0) 255, c8, c9, gt_iff_lt, if_true, if_false, Bool.false_eq_true, reduceIte, reduceCtorEq] at h
 all_goals
  try
   (obtain rfl := Option.some.inj h
    go_enter Try.func29, Try.ntmps29
    go_wp2
    go_ret
    exact ⟨rfl, zz1⟩)
 all_goals
  cases c12 : decide (bt a2 1 < 128)
 all_goals
  have c13 := s2 _ c12
  simp only [Bool.not_true, Bool.not_false] at c13
  have d12 := c12
  have d13 := c13
  simp only [decide_eq_true_eq, decide_eq_false_iff_not] at d12 d13
  simp only [d12, d13, gt_iff_lt, if_true, if_false, Bool.false_eq_true, reduceIte, reduceCtorEq] at h
  clear eb s2
  obtain rfl := Option.some.inj h
  go_enter Try.func29, Try.ntmps29
  go_wp2
  go_ret
  exact ⟨rfl, zz1⟩
end Go.Proofs.Ytpfconocipmcjaa.PC
