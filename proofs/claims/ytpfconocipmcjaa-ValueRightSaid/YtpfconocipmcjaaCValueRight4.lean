/- What the row of ValueRight stands on, made small by a program of this session (pack.py). -/
import Derived.ArgAppend
import Derived.Below
import Derived.BigQuiet
import Derived.Deep.AppendLies
import Derived.Deep.CutBlock
import Derived.Deep.DeepCutAuto
import Derived.Deep.Draws
import Derived.Deep.LoopGhost
import Derived.Deep.OwnRows
import Derived.Deep.QuietTactic
import Derived.Deep.RegionHeld3
import Derived.KernelRfl
import Derived.Laws.BitsLemmas
import Derived.Laws.BytesArg
import Derived.Laws.IdiomCopy
import Derived.Laws.MakeOwn
import Derived.Laws.OwnMore
import Derived.Laws.Rows
import Derived.Laws.Slices
import Derived.Lib.AppendStr
import Derived.Lib.ConvBytes
import Derived.Maps.AppendAt
import Derived.OrdersHeld
import Derived.OwnWalk
import Derived.RowKit
import Derived.RowKit3
import Derived.Tactics
import Derived.Test.YtpfconocipmcjaaProg
import Derived.WalkKit
import Derived.WideLaws
import Derived.Test.YtpfconocipmcjaaCValueRight0
import Derived.Test.YtpfconocipmcjaaCValueRight1
import Derived.Test.YtpfconocipmcjaaCValueRight2
import Derived.Test.YtpfconocipmcjaaCValueRight3
namespace Go.Proofs.Ytpfconocipmcjaa.PC
open RowKit YtpfconocipmcjaaW.PrintWords YtpfconocipmcjaaW.PrintLast YtpfconocipmcjaaW.PrintMore
attribute [local go_sem] max2_int min2_int max_two min_two max_three min_three max_four min_four
set_option linter.unusedVariables false
set_option linter.unusedSimpArgs false
def errW : Option Int → Value
 | none => .nilIface
 | some c => .iface 0 (.int .i64 c)
theorem errW_none : errW none = .nilIface := rfl
theorem errW_some (c : Int) : errW (some c) = .iface 0 (.int .i64 c) := rfl
theorem bytesLess_turn : ∀ (x y : List UInt8), (Op.bytesLess x y || x == y) = !Op.bytesLess y x
 | [], [] => rfl
 | [], _ :: _ => rfl
 | _ :: _, [] => rfl
 | a :: x, b :: y => by
   have ih := bytesLess_turn x y
   simp only [Op.bytesLess, List.cons_beq_cons]
   rcases Nat.lt_trichotomy a.toNat b.toNat with h | h | h
   ·
    have h1 : a < b := UInt8.lt_iff_toNat_lt.2 h
    have h2 : ¬ b < a := fun hc => by have := UInt8.lt_iff_toNat_lt.1 hc; omega
    have h3 : ¬ b = a := fun hc => by subst hc; omega
    have h4 : ¬ a = b := fun hc => by subst hc; omega
    simp [h1, h2, h3, h4]
   ·
    obtain rfl := UInt8.toNat_inj.1 h
    simp [ih]
   ·
    have h1 : ¬ a < b := fun hc => by have := UInt8.lt_iff_toNat_lt.1 hc; omega
    have h2 : b < a := UInt8.lt_iff_toNat_lt.2 h
    have h4 : ¬ a = b := fun hc => by subst hc; omega
    simp [h1, h2, h4]
@[go_sem] theorem bin_leq (t : TypeId) (a b : ByteArray) : binOp .leq t (.string a) (.string b) = pure (.bool (!Op.bytesLess b.toList a.toList)) := by rw [← bytesLess_turn]; simp [binOp, Op.stringOp]
@[go_sem] theorem bin_gtr (t : TypeId) (a b : ByteArray) : binOp .gtr t (.string a) (.string b) = pure (.bool (Op.bytesLess b.toList a.toList)) := by rw [← Bool.not_not (Op.bytesLess b.toList a.toList), ← bytesLess_turn]; simp [binOp, Op.stringOp]
@[go_sem] theorem bin_geq (t : TypeId) (a b : ByteArray) : binOp .geq t (.string a) (.string b) = pure (.bool (!Op.bytesLess a.toList b.toList)) := by simp [binOp, Op.stringOp]
theorem info39 : (Try.prog.info? 39).map (fun i => (i.zero, i.size, i.bytes)) = some (some (.agg #[(.int .i64 0), (.int .i64 0), (.int .i64 0), (.int .i64 0), (.bool false), (.int .i64 0), (.int .u8 0)]), 7, 56) := by kernel_rfl
structure S37 where
 f0 : Int
 f1 : Int
 f2 : Bool
 f3 : Int
def z37 : S37 := ⟨(0 : Int), (0 : Int), false, (0 : Int)⟩
def k37 : Kd S37 := Kd.iso (Kd.pair (Kd.int .i64) (Kd.pair (Kd.int .i64) (Kd.pair Kd.bool (Kd.int .i64)))) (fun x : S37 => (x.f0, x.f1, x.f2, x.f3))
theorem k37_open {w : World} {x : S37} {cs : List Value} (h : k37.K w x cs) : cs = [.int .i64 x.f0, .int .i64 x.f1, .bool x.f2, .int .i64 x.f3] := by
 obtain ⟨_, _, rfl, rfl, ⟨_, _, rfl, rfl, ⟨_, _, rfl, rfl, rfl⟩⟩⟩ := h
 exact rfl
theorem k37_openM {w : World} {base : Nat} {ok : Nat → Prop} {x : S37} {cs : List Value} (h : k37.M w base ok x cs) : cs = [.int .i64 x.f0, .int .i64 x.f1, .bool x.f2, .int .i64 x.f3] := by
 obtain ⟨_, _, rfl, rfl, ⟨_, _, rfl, rfl, ⟨_, _, rfl, rfl, rfl⟩⟩⟩ := h
 exact rfl
theorem k37_mkM (w : World) (base : Nat) (ok : Nat → Prop) (x : S37)  : k37.M w base ok x [.int .i64 x.f0, .int .i64 x.f1, .bool x.f2, .int .i64 x.f3] := ⟨[.int .i64 x.f0], [.int .i64 x.f1, .bool x.f2, .int .i64 x.f3], rfl, rfl, ⟨[.int .i64 x.f1], [.bool x.f2, .int .i64 x.f3], rfl, rfl, ⟨[.bool x.f2], [.int .i64 x.f3], rfl, rfl, rfl⟩⟩⟩
structure S39 where
 f0 : Int
 f1 : Int
 f2 : S37
 f3 : Int
def z39 : S39 := ⟨(0 : Int), (0 : Int), z37, (0 : Int)⟩
def k39 : Kd S39 := Kd.iso (Kd.pair (Kd.int .i64) (Kd.pair (Kd.int .i64) (Kd.pair k37 (Kd.int .u8)))) (fun x : S39 => (x.f0, x.f1, x.f2, x.f3))
theorem k39_open {w : World} {x : S39} {cs : List Value} (h : k39.K w x cs) : cs = [.int .i64 x.f0, .int .i64 x.f1, .int .i64 x.f2.f0, .int .i64 x.f2.f1, .bool x.f2.f2, .int .i64 x.f2.f3, .int .u8 x.f3] := by
 obtain ⟨_, _, rfl, rfl, ⟨_, _, rfl, rfl, ⟨_, _, rfl, s2, rfl⟩⟩⟩ := h
 obtain rfl := k37_open s2
 exact rfl
theorem k39_openM {w : World} {base : Nat} {ok : Nat → Prop} {x : S39} {cs : List Value} (h : k39.M w base ok x cs) : cs = [.int .i64 x.f0, .int .i64 x.f1, .int .i64 x.f2.f0, .int .i64 x.f2.f1, .bool x.f2.f2, .int .i64 x.f2.f3, .int .u8 x.f3] := by
 obtain ⟨_, _, rfl, rfl, ⟨_, _, rfl, rfl, ⟨_, _, rfl, s2, rfl⟩⟩⟩ := h
 obtain rfl := k37_openM s2
 exact rfl
theorem k39_mkM (w : World) (base : Nat) (ok : Nat → Prop) (x : S39)  : k39.M w base ok x [.int .i64 x.f0, .int .i64 x.f1, .int .i64 x.f2.f0, .int .i64 x.f2.f1, .bool x.f2.f2, .int .i64 x.f2.f3, .int .u8 x.f3] := ⟨[.int .i64 x.f0], [.int .i64 x.f1, .int .i64 x.f2.f0, .int .i64 x.f2.f1, .bool x.f2.f2, .int .i64 x.f2.f3, .int .u8 x.f3], rfl, rfl, ⟨[.int .i64 x.f1], [.int .i64 x.f2.f0, .int .i64 x.f2.f1, .bool x.f2.f2, .int .i64 x.f2.f3, .int .u8 x.f3], rfl, rfl, ⟨[.int .i64 x.f2.f0, .int .i64 x.f2.f1, .bool x.f2.f2, .int .i64 x.f2.f3], [.int .u8 x.f3], rfl, (k37_mkM w base ok x.f2 ), rfl⟩⟩⟩
def rd_T39 (xs : List S39) (i : Int) : S39 := xs.getD i.toNat z39
theorem at_T39 {w : World} {A : Option Addr} {n : Nat} {xs : List S39} (h : Kd.C k39 w A n xs) (i : Int) (h0 : 0 ≤ i) (h1 : i < n) : ∃ ad , A = some ad ∧ w.cell? (ad.add (i.toNat * 7)) = some (.int .i64 (rd_T39 xs i).f0) ∧ w.cell? ⟨(ad.add (i.toNat * 7)).block, (ad.add (i.toNat * 7)).off + 1, none⟩ = some (.int .i64 (rd_T39 xs i).f1) ∧ w.cell? ⟨(ad.add (i.toNat * 7)).block, (ad.add (i.toNat * 7)).off + 2, none⟩ = some (.int .i64 (rd_T39 xs i).f2.f0) ∧ w.cell? ⟨(ad.add (i.toNat * 7)).block, (ad.add (i.toNat * 7)).off + 3, none⟩ = some (.int .i64 (rd_T39 xs i).f2.f1) ∧ w.cell? ⟨(ad.add (i.toNat * 7)).block, (ad.add (i.toNat * 7)).off + 4, none⟩ = some (.bool (rd_T39 xs i).f2.f2) ∧ w.cell? ⟨(ad.add (i.toNat * 7)).block, (ad.add (i.toNat * 7)).off + 5, none⟩ = some (.int .i64 (rd_T39 xs i).f2.f3) ∧ w.cell? ⟨(ad.add (i.toNat * 7)).block, (ad.add (i.toNat * 7)).off + 6, none⟩ = some (.int .u8 (rd_T39 xs i).f3) := by
 obtain ⟨ad, c, e, _, hK, hc0⟩ := Kd.C_get h z39 i h0 h1
 have hc : ∀ j u, c[j]? = some u → w.cell? (ad.add (i.toNat * 7 + j)) = some u := hc0
 obtain rfl := k39_open hK
 exact ⟨ad, e, hc 0 _ rfl, by rw [← add_field _ _ 1 zz4]; exact hc 1 _ rfl, by rw [← add_field _ _ 2 zz4]; exact hc 2 _ rfl, by rw [← add_field _ _ 3 zz4]; exact hc 3 _ rfl, by rw [← add_field _ _ 4 zz4]; exact hc 4 _ rfl, by rw [← add_field _ _ 5 zz4]; exact hc 5 _ rfl, by rw [← add_field _ _ 6 zz4]; exact hc 6 _ rfl⟩
end Go.Proofs.Ytpfconocipmcjaa.PC
namespace Go.Proofs.Ytpfconocipmcjaa.PC
open Own Sl
open RowKit YtpfconocipmcjaaW.PrintWords YtpfconocipmcjaaW.PrintLast YtpfconocipmcjaaW.PrintMore
attribute [local go_sem] max2_int min2_int max_two min_two max_three min_three max_four min_four
set_option linter.unusedVariables false
set_option linter.unusedSimpArgs false
def number_Start.j0 : Nat → Int → Int → Bool → Int → Bool → Option (Int × Int × Int × Int × Bool)
 | 0, _, _, _, _, _ => none
 | k + 1, x0, x1, x6, x9, x10 => if x10 = true then (if x1 > 0 then (some (x0, x1, 0, 0, true)) else (some (0, 0, 0, 0, false))) else (if x9 = 1 then (if x1 = 1 then (some (x0, x1, 0, 0, true)) else (some (0, 0, 0, 0, false))) else (if x9 = 5 then (if x1 = 0 then (some (x0, x1, 0, 0, true)) else (some (0, 0, 0, 0, false))) else (if x6 = true then (some (x0, x1, 0, 0, true)) else (some (0, 0, 0, 0, false)))))
def number_Start.f (k : Nat) (a0 : Int) (a1 : Int) : Option (Int × Int × Int × Int × Bool) := if a0 = 2 then (number_Start.j0 k a0 a1 (decide (a1 ≥ 0)) a0 (a0 == 2)) else (number_Start.j0 k a0 a1 (decide (a1 ≥ 0)) a0 (a0 == 10))
set_option maxHeartbeats 8000000 in
set_option maxRecDepth 100000 in
theorem number_Start.calls (k : Nat) (a0 : Int) (a1 : Int) (r1 : Int) (r2 : Int) (r3 : Int) (r4 : Int) (r5 : Bool) (w : World) (h : number_Start.f k a0 a1 = some (r1, r2, r3, r4, r5)) :
 Calls Try.prog 46 #[.int .i64 a0, .int .i64 a1] w fun e w' => e = .returned (.tuple #[.agg #[.int .i64 r1, .int .i64 r2, .int .i64 r3, .int .u8 r4], .bool r5]) ∧ Below w.heap.size w w' := by
 have hS := Sp.nil (w := w) (S := None0)
 have hu := Try.underlying81
 have eb : ∀ a b : Int, (a = b) = ((a == b) = true) := fun a b => by simp
 cases k with
 | zero => simp [number_Start.f, number_Start.j0] at h
 | succ k =>
 simp only [number_Start.f, number_Start.j0] at h
 cases c1 : (a0 == 2) <;> cases c2 : (a0 == 10) <;> cases c3 : (a0 == 1) <;> cases c4 : (a0 == 5) <;> cases c5 : decide (0 < a1) <;> cases c6 : (a1 == 1) <;> cases c7 : (a1 == 0) <;> cases c8 : decide (0 ≤ a1)
 all_goals
  try (exfalso; simp only [beq_iff_eq, beq_eq_false_iff_ne, ne_eq, decide_eq_true_eq, decide_eq_false_iff_not] at *; omega)
 all_goals
  have d5 := c5
  simp only [decide_eq_true_eq, decide_eq_false_iff_not] at d5
  simp only [eb a0 2, eb a0 10, eb a0 1, eb a0 5, eb a1 1, eb a1 0, c1, c2, c3, c4, d5, c6, c7, c8, ge_iff_le, gt_iff_lt, if_true, if_false, Bool.false_eq_true, Option.some.injEq, Prod.mk.injEq, reduceIte] at h
  obtain ⟨rfl, rfl, rfl, rfl, rfl⟩ := h
  clear eb d5
  go_enter Try.func46, Try.ntmps46
  go_wp2_with (first
   | ((with_reducible refine gate_dst (N := 4) rfl ?_)
      refine sp_box hS rfl (N := 4) rfl _ 81 zz11 ?_
      intro g4 w4 hg4 hS)
   | ((with_reducible refine gate_store (t := 81) (p := 4) (v := .tmp 25) rfl ?_)
      refine sp_row hS 0 rfl 81 (.tmp 4) (.tmp 25) rfl rfl g4 _ rfl rfl 81 _ rfl zz12 rfl zz31 rfl ?_
      intro w25 hS)
   | ((with_reducible refine gate_store (t := 81) (p := 4) (v := .tmp 28) rfl ?_)
      refine sp_row hS 0 rfl 81 (.tmp 4) (.tmp 28) rfl rfl g4 _ rfl rfl 81 _ rfl zz12 rfl zz31 rfl ?_
      intro w28 hS))
  refine bodyPost_ret (results_ct rfl _ _ g4 81 _ (0, 0) _ rfl (hS.blk 0) Try.underlying81 rfl zz12) rfl ?_
  exact ⟨by first | rfl | simp, (Sp.u zz53).below0⟩
end Go.Proofs.Ytpfconocipmcjaa.PC
namespace Go.Proofs.Ytpfconocipmcjaa.PC
open Own Sl
open RowKit YtpfconocipmcjaaW.PrintWords YtpfconocipmcjaaW.PrintLast YtpfconocipmcjaaW.PrintMore
attribute [local go_sem] max2_int min2_int max_two min_two max_three min_three max_four min_four
set_option linter.unusedVariables false
set_option linter.unusedSimpArgs false
def number_State_Push.j0 : Nat → Int → Bool → Int → Int → Int → Int → Option (Int × Int × Int × Int × Bool)
 | 0, _, _, _, _, _, _ => none
 | k + 1, x1, x6, x178000, x178001, x178002, x178003 => if x6 = true then (if x178002 = 0 then (some (x178000, x178001, wrap64 (x178002 + 1), x1, true)) else (some (x178000, x178001, wrap64 (x178002 + 1), x178003, true))) else (some (0, 0, 0, 0, false))
def number_State_Push.f (k : Nat) (a0_0 : Int) (a0_1 : Int) (a0_2 : Int) (a0_3 : Int) (a1 : Int) : Option (Int × Int × Int × Int × Bool) := if a0_0 = 1 then (if a1 = 0 then (number_State_Push.j0 k a1 true a0_0 a0_1 a0_2 a0_3) else (number_State_Push.j0 k a1 (a1 == 255) a0_0 a0_1 a0_2 a0_3)) else (if a0_0 = 2 then (if a0_2 = 1 then (if a0_3 = 0 then (if a1 < 128 then (number_State_Push.j0 k a1 (!true) a0_0 a0_1 a0_2 a0_3) else (if a0_3 = 255 then (number_State_Push.j0 k a1 (!(decide (a1 ≥ 128))) a0_0 a0_1 a0_2 a0_3) else (number_State_Push.j0 k a1 (!false) a0_0 a0_1 a0_2 a0_3))) else (if a0_3 = 255 then (number_State_Push.j0 k a1 (!(decide (a1 ≥ 128))) a0_0 a0_1 a0_2 a0_3) else (number_State_Push.j0 k a1 (!false) a0_0 a0_1 a0_2 a0_3))) else (number_State_Push.j0 k a1 true a0_0 a0_1 a0_2 a0_3)) else (if a0_0 = 10 then (if a0_2 = 1 then (if a0_3 = 0 then (if a1 < 128 then (number_State_Push.j0 k a1 (!true) a0_0 a0_1 a0_2 a0_3) else (if a0_3 = 255 then (number_State_Push.j0 k a1 (!(decide (a1 ≥ 128))) a0_0 a0_1 a0_2 a0_3) else (number_State_Push.j0 k a1 (!false) a0_0 a0_1 a0_2 a0_3))) else (if a0_3 = 255 then (number_State_Push.j0 k a1 (!(decide (a1 ≥ 128))) a0_0 a0_1 a0_2 a0_3) else (number_State_Push.j0 k a1 (!false) a0_0 a0_1 a0_2 a0_3))) else (number_State_Push.j0 k a1 true a0_0 a0_1 a0_2 a0_3)) else (number_State_Push.j0 k a1 true a0_0 a0_1 a0_2 a0_3)))
set_option maxHeartbeats 8000000 in
set_option maxRecDepth 100000 in
theorem number_State_Push.calls (k : Nat) (a0_0 : Int) (a0_1 : Int) (a0_2 : Int) (a0_3 : Int) (a1 : Int) (r1 : Int) (r2 : Int) (r3 : Int) (r4 : Int) (r5 : Bool) (w : World) (h : number_State_Push.f k a0_0 a0_1 a0_2 a0_3 a1 = some (r1, r2, r3, r4, r5)) :
 Calls Try.prog 101 #[.agg #[.int .i64 a0_0, .int .i64 a0_1, .int .i64 a0_2, .int .u8 a0_3], .int .u8 a1] w fun e w' => e = .returned (.tuple #[.agg #[.int .i64 r1, .int .i64 r2, .int .i64 r3, .int .u8 r4], .bool r5]) ∧ Below w.heap.size w w' := by
 have hS := Sp.nil (w := w) (S := None0)
 have hu := Try.underlying81
 have eb : ∀ a b : Int, (a = b) = ((a == b) = true) := fun a b => by simp
 cases k with
 | zero => simp [number_State_Push.f, number_State_Push.j0] at h
 | succ k =>
 simp only [number_State_Push.f, number_State_Push.j0] at h
 obtain ⟨x, hx⟩ : ∃ x, wrap64 (a0_2 + 1) = x := ⟨_, rfl⟩
 have hx2 : IntKind.i64.wrap (a0_2 + 1) = x := by rw [← hx]; exact i64_w _
 rw [hx] at h
 by_cases k1 : a0_0 = 1
 case' pos => (cases c8 : (a1 == 0) <;> cases c9 : (a1 == 255))
 case' neg =>
  by_cases k2 : (a0_0 = 2 ∨ a0_0 = 10) ∧ a0_2 = 1
  case' pos => (cases c6 : (a0_3 == 0) <;> cases c7 : (a0_3 == 255) <;> cases c10 : decide (a1 < 128) <;> cases c11 : decide (128 ≤ a1))
 all_goals (cases c1 : (a0_0 == 1) <;> cases c2 : (a0_0 == 2) <;> cases c3 : (a0_0 == 10) <;> cases c4 : (a0_2 == 1) <;> cases c5 : (a0_2 == 0))
 all_goals
  try (exfalso; clear hx hx2 h; simp only [beq_iff_eq, beq_eq_false_iff_ne, ne_eq, decide_eq_true_eq, decide_eq_false_iff_not] at *; omega)
 all_goals
  try have d10 := of_decide_eq_true c10
  try have d10 := of_decide_eq_false c10
  try have d11 := of_decide_eq_true c11
  try have d11 := of_decide_eq_false c11
  first
   | simp only [eb a0_0 1, eb a0_0 2, eb a0_0 10, eb a0_2 1, eb a0_2 0, eb a0_3 0, eb a0_3 255, eb a1 0, ge_iff_le, Bool.not_true, Bool.not_false, if_true, if_false, Bool.false_eq_true, Option.some.injEq, Prod.mk.injEq, reduceIte, c1, c2, c3, c4, c5, c8, c9] at h
   | simp only [eb a0_0 1, eb a0_0 2, eb a0_0 10, eb a0_2 1, eb a0_2 0, eb a0_3 0, eb a0_3 255, eb a1 0, ge_iff_le, Bool.not_true, Bool.not_false, if_true, if_false, Bool.false_eq_true, Option.some.injEq, Prod.mk.injEq, reduceIte, c1, c2, c3, c4, c5, c6, c7, d10, d11, c11] at h
   | simp only [eb a0_0 1, eb a0_0 2, eb a0_0 10, eb a0_2 1, eb a0_2 0, eb a0_3 0, eb a0_3 255, eb a1 0, ge_iff_le, Bool.not_true, Bool.not_false, if_true, if_false, Bool.false_eq_true, Option.some.injEq, Prod.mk.injEq, reduceIte, c1, c2, c3, c4, c5] at h
  obtain ⟨rfl, rfl, rfl, rfl, rfl⟩ := h
  clear hx eb
  try clear d10
  try clear d11
  clear k1
  try clear k2
  go_enter Try.func101, Try.ntmps101
  go_wp2_with (first
   | ((with_reducible refine gate_dst (N := 2) rfl ?_)
      refine sp_box hS rfl (N := 2) rfl _ 81 zz11 ?_
      intro g2 w2 hg2 hS)
   | ((with_reducible refine gate_dst (N := 4) rfl ?_)
      refine sp_box hS rfl (N := 4) rfl _ 81 zz11 ?_
      intro g4 w4 hg4 hS
      obtain ⟨j0, j1, j2, j3⟩ := hS.cells4 1)
   | ((with_reducible refine gate_store (t := 81) (p := 4) (v := .tmp 50) rfl ?_)
      refine sp_row hS 0 rfl 81 (.tmp 4) (.tmp 50) rfl rfl g4 _ rfl rfl 81 _ rfl zz12 rfl zz31 rfl ?_
      intro w50 hS)
   | ((with_reducible refine gate_store (t := 5) (p := 55) (v := .tmp 54) rfl ?_)
      refine sp_cell hS 1 rfl 5 (.tmp 55) (.tmp 54) rfl rfl g2 3 (.int .u8 a1) rfl rfl 81 _ _ rfl zz12 zz30 rfl rfl rfl ?_
      clear j0 j1 j2 j3
      intro w55 hS
      obtain ⟨j0, j1, j2, j3⟩ := hS.cells4 1)
   | ((with_reducible refine gate_store (t := 3) (p := 59) (v := .tmp 58) rfl ?_)
      refine sp_cell hS 1 rfl 3 (.tmp 59) (.tmp 58) rfl rfl g2 2 (.int .i64 _) rfl rfl 81 _ _ rfl zz12 zz30 rfl rfl rfl ?_
      clear j0 j1 j2 j3
      intro w59 hS
      obtain ⟨j0, j1, j2, j3⟩ := hS.cells4 1)
   | ((with_reducible refine gate_store (t := 81) (p := 4) (v := .tmp 60) rfl ?_)
      refine sp_row hS 0 rfl 81 (.tmp 4) (.tmp 60) rfl rfl g4 _ rfl rfl 81 _ rfl zz12 rfl zz31 rfl ?_
      intro w60 hS))
  refine bodyPost_ret (results_ct rfl _ _ g4 81 _ (0, 0) _ rfl (hS.blk 0) Try.underlying81 rfl zz12) rfl ?_
  exact ⟨by first | rfl | simp, (Sp.u zz53).below0⟩
end Go.Proofs.Ytpfconocipmcjaa.PC
namespace Go.Proofs.Ytpfconocipmcjaa.PC
open RowKit YtpfconocipmcjaaW.PrintWords YtpfconocipmcjaaW.PrintLast YtpfconocipmcjaaW.PrintMore
attribute [local go_sem] max2_int min2_int max_two min_two max_three min_three max_four min_four
set_option linter.unusedVariables false
set_option linter.unusedSimpArgs false
def gantletref10_Wrong.j0 : Nat → Int → ByteArray → Bool → Option (Int)
 | 0, _, _, _ => none
 | k + 1, x1, x2, x35 => if x35 = true then (some (-1)) else (if x1 = 0 then (some 0) else (if (x2.size : Int) > 1 then (if 0 < (x2.size : Int) then (if (bt x2 0) = 0 then (if 1 < (x2.size : Int) then (if (bt x2 1) < 128 then (some 2) else (if (bt x2 0) = 255 then (if (bt x2 1) > 127 then (some 2) else (some (-1))) else (some (-1)))) else (none)) else (if (bt x2 0) = 255 then (if 1 < (x2.size : Int) then (if (bt x2 1) > 127 then (some 2) else (some (-1))) else (none)) else (some (-1)))) else (none)) else (some (-1))))
def gantletref10_Wrong.f (k : Nat) (a0 : Int) (a1 : Int) (a2 : ByteArray) : Option (Int) := if a1 < 0 then (some 0) else (if a0 = 5 then (if a1 = 0 then (some (-1)) else (some 0)) else (if a0 = 1 then (if a1 = 1 then (if (a2.size : Int) > 0 then (if 0 < (a2.size : Int) then (if (bt a2 0) = 0 then (some (-1)) else (if (bt a2 0) = 255 then (some (-1)) else (some 1))) else (none)) else (some (-1))) else (some 0)) else (if a0 = 2 then (gantletref10_Wrong.j0 k a1 a2 false) else (gantletref10_Wrong.j0 k a1 a2 (a0 != 10)))))
set_option maxHeartbeats 8000000 in
set_option maxRecDepth 100000 in
theorem gantletref10_Wrong.calls (k : Nat) (a0 : Int) (a1 : Int) (a2 : ByteArray) (r : Int) (w : World) (h : gantletref10_Wrong.f k a0 a1 a2 = some r) :
 Calls Try.prog 29 #[.int .i64 a0, .int .i64 a1, .string a2] w fun e w' => e = .returned (.int .i64 r) ∧ Drawn0 w w' := by
 have H : (if a1 < 0 then (some 0) else (if a0 = 5 then (if a1 = 0 then (some (-1)) else (some 0)) else (if a0 = 1 then (if a1 = 1 then (if (a2.size : Int) > 0 then (if 0 < (a2.size : Int) then (if (bt a2 0) = 0 then (some (-1)) else (if (bt a2 0) = 255 then (some (-1)) else (some 1))) else (none)) else (some (-1))) else (some 0)) else (if a0 = 2 then (gantletref10_Wrong.j0 k a1 a2 false) else (gantletref10_Wrong.j0 k a1 a2 (a0 != 10)))))) = some r := h
 clear h
 by_cases c4 : a1 < 0
 ·
  rw [if_pos c4] at H
  have c4b0 : decide (a1 < 0) = true := decide_eq_true c4
  clear c4
  obtain rfl := Option.some.inj H
  go_enter Try.func29, Try.ntmps29
  go_wp2
  go_ret
  exact ⟨zz0, zz1⟩
 ·
  rw [if_neg c4] at H
  have c4b0 : decide (a1 < 0) = false := decide_eq_false c4
  clear c4
  by_cases c5 : a0 = 5
  ·
   rw [if_pos c5] at H
   have c5b0 : (a0 == 5) = true := beq_iff_eq.mpr c5
   have c5b1 : (a0 != 5) = false := bne_eq_false_iff_eq.mpr c5
   clear c5
   by_cases c6 : a1 = 0
   ·
    rw [if_pos c6] at H
    have c6b0 : (a1 == 0) = true := beq_iff_eq.mpr c6
    have c6b1 : (a1 != 0) = false := bne_eq_false_iff_eq.mpr c6
    clear c6
    obtain rfl := Option.some.inj H
    go_enter Try.func29, Try.ntmps29
    go_wp2
    go_ret
    exact ⟨zz0, zz1⟩
   ·
    rw [if_neg c6] at H
    have c6b0 : (a1 == 0) = false := beq_eq_false_iff_ne.mpr c6
    have c6b1 : (a1 != 0) = true := bne_iff_ne.mpr c6
    obtain rfl := Option.some.inj H
    go_enter Try.func29, Try.ntmps29
    go_wp2
    go_ret
    exact ⟨zz0, zz1⟩
  ·
   rw [if_neg c5] at H
   have c5b0 : (a0 == 5) = false := beq_eq_false_iff_ne.mpr c5
   have c5b1 : (a0 != 5) = true := bne_iff_ne.mpr c5
   by_cases c7 : a0 = 1
   ·
    rw [if_pos c7] at H
    have c7b0 : (a0 == 1) = true := beq_iff_eq.mpr c7
    have c7b1 : (a0 != 1) = false := bne_eq_false_iff_eq.mpr c7
    clear c7
    by_cases c8 : a1 = 1
    ·
     rw [if_pos c8] at H
     have c8b0 : (a1 == 1) = true := beq_iff_eq.mpr c8
     have c8b1 : (a1 != 1) = false := bne_eq_false_iff_eq.mpr c8
     clear c8
     by_cases c9 : (a2.size : Int) > 0
     ·
      rw [if_pos c9] at H
      have c9b0 : decide (0 < (a2.size : Int)) = true := decide_eq_true c9
      have c9b1 : decide (0 < a2.size) = true := decide_eq_true zz4
      clear c9
      by_cases c10 : 0 < (a2.size : Int)
      ·
       rw [if_pos c10] at H
       have c10b0 : decide (0 < (a2.size : Int)) = true := decide_eq_true c10
       have c10b1 : decide (0 < a2.size) = true := decide_eq_true zz4
       clear c10
       by_cases c12 : (bt a2 0) = 0
       ·
        rw [if_pos c12] at H
        have c12b0 : ((bt a2 0) == 0) = true := beq_iff_eq.mpr c12
        have c12b1 : ((bt a2 0) != 0) = false := bne_eq_false_iff_eq.mpr c12
        clear c12
        obtain rfl := Option.some.inj H
        have p11 : 0 ≤ (0 : Int) := zz4
        have q11 : 0 < a2.size := (by have : (0 : Int) < (a2.size : Int) := of_decide_eq_true zz3; omega)
        have hx11 : ∀ h : 0 < a2.size, ((a2[0]'h).toNat : Int) = bt a2 0 := bt_at a2 0
        clear p11
        have qi11 : (0 < (a2.size : Int)) = True := eq_true (of_decide_eq_true zz3)
        replace q11 := eq_true q11
        go_enter Try.func29, Try.ntmps29
        go_wp2
        go_ret
        exact ⟨zz0, zz1⟩
       ·
        rw [if_neg c12] at H
        have c12b0 : ((bt a2 0) == 0) = false := beq_eq_false_iff_ne.mpr c12
        have c12b1 : ((bt a2 0) != 0) = true := bne_iff_ne.mpr c12
        by_cases c14 : (bt a2 0) = 255
        ·
         rw [if_pos c14] at H
         have c14b0 : ((bt a2 0) == 255) = true := beq_iff_eq.mpr c14
         have c14b1 : ((bt a2 0) != 255) = false := bne_eq_false_iff_eq.mpr c14
         clear c14
         obtain rfl := Option.some.inj H
         have p11 : 0 ≤ (0 : Int) := zz4
         have q11 : 0 < a2.size := (by have : (0 : Int) < (a2.size : Int) := of_decide_eq_true zz3; omega)
         have hx11 : ∀ h : 0 < a2.size, ((a2[0]'h).toNat : Int) = bt a2 0 := bt_at a2 0
         clear p11
         have qi11 : (0 < (a2.size : Int)) = True := eq_true (of_decide_eq_true zz3)
         replace q11 := eq_true q11
         have p13 : 0 ≤ (0 : Int) := zz4
         have q13 : 0 < a2.size := (by have : (0 : Int) < (a2.size : Int) := of_decide_eq_true zz3; omega)
         have hx13 : ∀ h : 0 < a2.size, ((a2[0]'h).toNat : Int) = bt a2 0 := bt_at a2 0
         clear p13
         have qi13 : (0 < (a2.size : Int)) = True := eq_true (of_decide_eq_true zz3)
         replace q13 := eq_true q13
         go_enter Try.func29, Try.ntmps29
         go_wp2
         go_ret
         exact ⟨zz0, zz1⟩
        ·
         rw [if_neg c14] at H
         have c14b0 : ((bt a2 0) == 255) = false := beq_eq_false_iff_ne.mpr c14
         have c14b1 : ((bt a2 0) != 255) = true := bne_iff_ne.mpr c14
         obtain rfl := Option.some.inj H
         have p11 : 0 ≤ (0 : Int) := zz4
         have q11 : 0 < a2.size := (by have : (0 : Int) < (a2.size : Int) := of_decide_eq_true zz3; omega)
         have hx11 : ∀ h : 0 < a2.size, ((a2[0]'h).toNat : Int) = bt a2 0 := bt_at a2 0
         clear p11
         have qi11 : (0 < (a2.size : Int)) = True := eq_true (of_decide_eq_true zz3)
         replace q11 := eq_true q11
         have p13 : 0 ≤ (0 : Int) := zz4
         have q13 : 0 < a2.size := (by have : (0 : Int) < (a2.size : Int) := of_decide_eq_true zz3; omega)
         have hx13 : ∀ h : 0 < a2.size, ((a2[0]'h).toNat : Int) = bt a2 0 := bt_at a2 0
         clear p13
         have qi13 : (0 < (a2.size : Int)) = True := eq_true (of_decide_eq_true zz3)
         replace q13 := eq_true q13
         go_enter Try.func29, Try.ntmps29
         go_wp2
         go_ret
         exact ⟨zz0, zz1⟩
      ·
       rw [if_neg c10] at H
       exact absurd H zz30
     ·
      rw [if_neg c9] at H
      have c9b0 : decide (0 < (a2.size : Int)) = false := decide_eq_false c9
      have c9b1 : decide (0 < a2.size) = false := decide_eq_false zz4
      clear c9
      obtain rfl := Option.some.inj H
      go_enter Try.func29, Try.ntmps29
      go_wp2
      go_ret
      exact ⟨zz0, zz1⟩
    ·
     rw [if_neg c8] at H
     have c8b0 : (a1 == 1) = false := beq_eq_false_iff_ne.mpr c8
     have c8b1 : (a1 != 1) = true := bne_iff_ne.mpr c8
     obtain rfl := Option.some.inj H
     go_enter Try.func29, Try.ntmps29
     go_wp2
     go_ret
     exact ⟨zz0, zz1⟩
   ·
    rw [if_neg c7] at H
    have c7b0 : (a0 == 1) = false := beq_eq_false_iff_ne.mpr c7
    have c7b1 : (a0 != 1) = true := bne_iff_ne.mpr c7
    have HC15 := Aside0.mk H
    clear H
    go_enter Try.func29, Try.ntmps29
    go_upto_region 13 with (fail)
    go_cut [35] (fun v35 wc => ∃ (kq : Nat) (x35_14 : Bool), v35 = .bool x35_14 ∧ Aside0 (gantletref10_Wrong.j0 kq a1 a2 x35_14 = some r) ∧ Aside0 (kq ≤ k) ∧ Drawn0 w wc)
    case first =>
     have H := HC15.out
     clear HC15
     by_cases c16 : a0 = 2
     ·
      rw [if_pos c16] at H
      have c16b0 : (a0 == 2) = true := beq_iff_eq.mpr c16
      have c16b1 : (a0 != 2) = false := bne_eq_false_iff_eq.mpr c16
      clear c16
      (first | rw [c16b0] | (simp only [i64_w, i32_w]; rw [c16b0]) | skip)
      have H' := Aside0.mk H
      clear H
      go_wp2
      go_meet
      case rel => exact ⟨_, (false), zz0, H', ⟨zz25⟩, zz1⟩
     ·
      rw [if_neg c16] at H
      have c16b0 : (a0 == 2) = false := beq_eq_false_iff_ne.mpr c16
      have c16b1 : (a0 != 2) = true := bne_iff_ne.mpr c16
      (first | rw [c16b0] | (simp only [i64_w, i32_w]; rw [c16b0]) | skip)
      have H' := Aside0.mk H
      clear H
      go_wp2
      go_meet
      case rel => exact ⟨_, ((a0 != 10)), zz0, H', ⟨zz25⟩, zz1⟩
    case rest =>
     clear HC15
     try clear c1
     try clear p1
     try clear q1
     try clear hx1
     try clear qi1
     try clear c2
     try clear p2
     try clear c4
     try clear c4b0
     try clear c5
     try clear c5b0
     try clear c5b1
     try clear c6
     try clear c6b0
     try clear c6b1
     try clear c7
     try clear c7b0
     try clear c7b1
     try clear c8
     try clear c8b0
     try clear c8b1
     try clear c9
     try clear c9b0
     try clear c9b1
     try clear c10
     try clear c10b0
     try clear c10b1
     try clear p11
     try clear q11
     try clear hx11
     try clear qi11
     try clear c12
     try clear c12b0
     try clear c12b1
     try clear p13
     try clear q13
     try clear hx13
     try clear qi13
     try clear c14
     try clear c14b0
     try clear c14b1
     try clear c16
     try clear c16b0
     try clear c16b1
     try clear p11
     try clear p13
     try clear q11
     try clear q13
     obtain ⟨kq, x35_14, rfl, HA, HJ14, ⟨mc14, rfl⟩⟩ := hcut
     cases kq with
     | zero => exact absurd HA.out (by simp [gantletref10_Wrong.j0])
     | succ kj14 =>
       have H := HA.out
       clear HA
       simp only [gantletref10_Wrong.j0] at H
       by_cases c17 : x35_14 = true
       ·
        subst c17
        rw [if_pos rfl] at H
        obtain rfl := Option.some.inj H
        go_wp2
        go_ret
        exact ⟨zz0, zz1⟩
       ·
        replace c17 := Bool.eq_false_iff.mpr c17
        subst c17
        rw [if_neg (show ¬ (false = true) by decide)] at H
        by_cases c18 : a1 = 0
        ·
         rw [if_pos c18] at H
         have c18b0 : (a1 == 0) = true := beq_iff_eq.mpr c18
         have c18b1 : (a1 != 0) = false := bne_eq_false_iff_eq.mpr c18
         clear c18
         obtain rfl := Option.some.inj H
         go_wp2
         go_ret
         exact ⟨zz0, zz1⟩
        ·
         rw [if_neg c18] at H
         have c18b0 : (a1 == 0) = false := beq_eq_false_iff_ne.mpr c18
         have c18b1 : (a1 != 0) = true := bne_iff_ne.mpr c18
         by_cases c19 : (a2.size : Int) > 1
         ·
          rw [if_pos c19] at H
          have c19b0 : decide (1 < (a2.size : Int)) = true := decide_eq_true c19
          have c19b1 : decide (1 < a2.size) = true := decide_eq_true zz4
          clear c19
          by_cases c20 : 0 < (a2.size : Int)
          ·
           rw [if_pos c20] at H
           have c20b0 : decide (0 < (a2.size : Int)) = true := decide_eq_true c20
           have c20b1 : decide (0 < a2.size) = true := decide_eq_true zz4
           clear c20
           by_cases c22 : (bt a2 0) = 0
           ·
            rw [if_pos c22] at H
            have c22b0 : ((bt a2 0) == 0) = true := beq_iff_eq.mpr c22
            have c22b1 : ((bt a2 0) != 0) = false := bne_eq_false_iff_eq.mpr c22
            clear c22
            by_cases c23 : 1 < (a2.size : Int)
            ·
             rw [if_pos c23] at H
             have c23b0 : decide (1 < (a2.size : Int)) = true := decide_eq_true c23
             have c23b1 : decide (1 < a2.size) = true := decide_eq_true zz4
             clear c23
             by_cases c25 : (bt a2 1) < 128
             ·
              rw [if_pos c25] at H
              have c25b0 : decide ((bt a2 1) < 128) = true := decide_eq_true c25
              clear c25
              obtain rfl := Option.some.inj H
              have p21 : 0 ≤ (0 : Int) := zz4
              have q21 : 0 < a2.size := (by have : (0 : Int) < (a2.size : Int) := of_decide_eq_true zz3; omega)
              have hx21 : ∀ h : 0 < a2.size, ((a2[0]'h).toNat : Int) = bt a2 0 := bt_at a2 0
              clear p21
              have qi21 : (0 < (a2.size : Int)) = True := eq_true (of_decide_eq_true zz3)
              replace q21 := eq_true q21
              have p24 : 0 ≤ (1 : Int) := zz4
              have q24 : 1 < a2.size := (by have : (1 : Int) < (a2.size : Int) := of_decide_eq_true zz3; omega)
              have hx24 : ∀ h : 1 < a2.size, ((a2[1]'h).toNat : Int) = bt a2 1 := bt_at a2 1
              clear p24
              have qi24 : (1 < (a2.size : Int)) = True := eq_true (of_decide_eq_true zz3)
              replace q24 := eq_true q24
              go_wp2
              go_ret
              exact ⟨zz0, zz1⟩
             ·
              rw [if_neg c25] at H
              have c25b0 : decide ((bt a2 1) < 128) = false := decide_eq_false c25
              clear c25
              by_cases c27 : (bt a2 0) = 255
              ·
               rw [if_pos c27] at H
               have c27b0 : ((bt a2 0) == 255) = true := beq_iff_eq.mpr c27
               have c27b1 : ((bt a2 0) != 255) = false := bne_eq_false_iff_eq.mpr c27
               clear c27
               by_cases c29 : (bt a2 1) > 127
               ·
                rw [if_pos c29] at H
                have c29b0 : decide (127 < (bt a2 1)) = true := decide_eq_true c29
                clear c29
                obtain rfl := Option.some.inj H
                have p21 : 0 ≤ (0 : Int) := zz4
                have q21 : 0 < a2.size := (by have : (0 : Int) < (a2.size : Int) := of_decide_eq_true zz3; omega)
                have hx21 : ∀ h : 0 < a2.size, ((a2[0]'h).toNat : Int) = bt a2 0 := bt_at a2 0
                clear p21
                have qi21 : (0 < (a2.size : Int)) = True := eq_true (of_decide_eq_true zz3)
                replace q21 := eq_true q21
                have p24 : 0 ≤ (1 : Int) := zz4
                have q24 : 1 < a2.size := (by have : (1 : Int) < (a2.size : Int) := of_decide_eq_true zz3; omega)
                have hx24 : ∀ h : 1 < a2.size, ((a2[1]'h).toNat : Int) = bt a2 1 := bt_at a2 1
                clear p24
                have qi24 : (1 < (a2.size : Int)) = True := eq_true (of_decide_eq_true zz3)
                replace q24 := eq_true q24
                have p26 : 0 ≤ (0 : Int) := zz4
                have q26 : 0 < a2.size := (by have : (0 : Int) < (a2.size : Int) := of_decide_eq_true zz3; omega)
                have hx26 : ∀ h : 0 < a2.size, ((a2[0]'h).toNat : Int) = bt a2 0 := bt_at a2 0
                clear p26
                have qi26 : (0 < (a2.size : Int)) = True := eq_true (of_decide_eq_true zz3)
                replace q26 := eq_true q26
                have p28 : 0 ≤ (1 : Int) := zz4
                have q28 : 1 < a2.size := (by have : (1 : Int) < (a2.size : Int) := of_decide_eq_true zz3; omega)
                have hx28 : ∀ h : 1 < a2.size, ((a2[1]'h).toNat : Int) = bt a2 1 := bt_at a2 1
                clear p28
                have qi28 : (1 < (a2.size : Int)) = True := eq_true (of_decide_eq_true zz3)
                replace q28 := eq_true q28
                go_wp2
                go_ret
                exact ⟨zz0, zz1⟩
               ·
                rw [if_neg c29] at H
                have c29b0 : decide (127 < (bt a2 1)) = false := decide_eq_false c29
                clear c29
                obtain rfl := Option.some.inj H
                have p21 : 0 ≤ (0 : Int) := zz4
                have q21 : 0 < a2.size := (by have : (0 : Int) < (a2.size : Int) := of_decide_eq_true zz3; omega)
                have hx21 : ∀ h : 0 < a2.size, ((a2[0]'h).toNat : Int) = bt a2 0 := bt_at a2 0
                clear p21
                have qi21 : (0 < (a2.size : Int)) = True := eq_true (of_decide_eq_true zz3)
                replace q21 := eq_true q21
                have p24 : 0 ≤ (1 : Int) := zz4
                have q24 : 1 < a2.size := (by have : (1 : Int) < (a2.size : Int) := of_decide_eq_true zz3; omega)
                have hx24 : ∀ h : 1 < a2.size, ((a2[1]'h).toNat : Int) = bt a2 1 := bt_at a2 1
                clear p24
                have qi24 : (1 < (a2.size : Int)) = True := eq_true (of_decide_eq_true zz3)
                replace q24 := eq_true q24
                have p26 : 0 ≤ (0 : Int) := zz4
                have q26 : 0 < a2.size := (by have : (0 : Int) < (a2.size : Int) := of_decide_eq_true zz3; omega)
                have hx26 : ∀ h : 0 < a2.size, ((a2[0]'h).toNat : Int) = bt a2 0 := bt_at a2 0
                clear p26
                have qi26 : (0 < (a2.size : Int)) = True := eq_true (of_decide_eq_true zz3)
                replace q26 := eq_true q26
                have p28 : 0 ≤ (1 : Int) := zz4
                have q28 : 1 < a2.size := (by have : (1 : Int) < (a2.size : Int) := of_decide_eq_true zz3; omega)
                have hx28 : ∀ h : 1 < a2.size, ((a2[1]'h).toNat : Int) = bt a2 1 := bt_at a2 1
                clear p28
                have qi28 : (1 < (a2.size : Int)) = True := eq_true (of_decide_eq_true zz3)
                replace q28 := eq_true q28
                go_wp2
                go_ret
                exact ⟨zz0, zz1⟩
              ·
               rw [if_neg c27] at H
               have c27b0 : ((bt a2 0) == 255) = false := beq_eq_false_iff_ne.mpr c27
               have c27b1 : ((bt a2 0) != 255) = true := bne_iff_ne.mpr c27
               obtain rfl := Option.some.inj H
               have p21 : 0 ≤ (0 : Int) := zz4
               have q21 : 0 < a2.size := (by have : (0 : Int) < (a2.size : Int) := of_decide_eq_true zz3; omega)
               have hx21 : ∀ h : 0 < a2.size, ((a2[0]'h).toNat : Int) = bt a2 0 := bt_at a2 0
               clear p21
               have qi21 : (0 < (a2.size : Int)) = True := eq_true (of_decide_eq_true zz3)
               replace q21 := eq_true q21
               have p24 : 0 ≤ (1 : Int) := zz4
               have q24 : 1 < a2.size := (by have : (1 : Int) < (a2.size : Int) := of_decide_eq_true zz3; omega)
               have hx24 : ∀ h : 1 < a2.size, ((a2[1]'h).toNat : Int) = bt a2 1 := bt_at a2 1
               clear p24
               have qi24 : (1 < (a2.size : Int)) = True := eq_true (of_decide_eq_true zz3)
               replace q24 := eq_true q24
               have p26 : 0 ≤ (0 : Int) := zz4
               have q26 : 0 < a2.size := (by have : (0 : Int) < (a2.size : Int) := of_decide_eq_true zz3; omega)
               have hx26 : ∀ h : 0 < a2.size, ((a2[0]'h).toNat : Int) = bt a2 0 := bt_at a2 0
               clear p26
               have qi26 : (0 < (a2.size : Int)) = True := eq_true (of_decide_eq_true zz3)
               replace q26 := eq_true q26
               go_wp2
               go_ret
               exact ⟨zz0, zz1⟩
            ·
             rw [if_neg c23] at H
             exact absurd H zz30
           ·
            rw [if_neg c22] at H
            have c22b0 : ((bt a2 0) == 0) = false := beq_eq_false_iff_ne.mpr c22
            have c22b1 : ((bt a2 0) != 0) = true := bne_iff_ne.mpr c22
            by_cases c31 : (bt a2 0) = 255
            ·
             rw [if_pos c31] at H
             have c31b0 : ((bt a2 0) == 255) = true := beq_iff_eq.mpr c31
             have c31b1 : ((bt a2 0) != 255) = false := bne_eq_false_iff_eq.mpr c31
             clear c31
             by_cases c32 : 1 < (a2.size : Int)
             ·
              rw [if_pos c32] at H
              have c32b0 : decide (1 < (a2.size : Int)) = true := decide_eq_true c32
              have c32b1 : decide (1 < a2.size) = true := decide_eq_true zz4
              clear c32
              by_cases c34 : (bt a2 1) > 127
              ·
               rw [if_pos c34] at H
               have c34b0 : decide (127 < (bt a2 1)) = true := decide_eq_true c34
               clear c34
               obtain rfl := Option.some.inj H
               have p21 : 0 ≤ (0 : Int) := zz4
               have q21 : 0 < a2.size := (by have : (0 : Int) < (a2.size : Int) := of_decide_eq_true zz3; omega)
               have hx21 : ∀ h : 0 < a2.size, ((a2[0]'h).toNat : Int) = bt a2 0 := bt_at a2 0
               clear p21
               have qi21 : (0 < (a2.size : Int)) = True := eq_true (of_decide_eq_true zz3)
               replace q21 := eq_true q21
               have p30 : 0 ≤ (0 : Int) := zz4
               have q30 : 0 < a2.size := (by have : (0 : Int) < (a2.size : Int) := of_decide_eq_true zz3; omega)
               have hx30 : ∀ h : 0 < a2.size, ((a2[0]'h).toNat : Int) = bt a2 0 := bt_at a2 0
               clear p30
               have qi30 : (0 < (a2.size : Int)) = True := eq_true (of_decide_eq_true zz3)
               replace q30 := eq_true q30
               have p33 : 0 ≤ (1 : Int) := zz4
               have q33 : 1 < a2.size := (by have : (1 : Int) < (a2.size : Int) := of_decide_eq_true zz3; omega)
               have hx33 : ∀ h : 1 < a2.size, ((a2[1]'h).toNat : Int) = bt a2 1 := bt_at a2 1
               clear p33
               have qi33 : (1 < (a2.size : Int)) = True := eq_true (of_decide_eq_true zz3)
               replace q33 := eq_true q33
               go_wp2
               go_ret
               exact ⟨zz0, zz1⟩
              ·
               rw [if_neg c34] at H
               have c34b0 : decide (127 < (bt a2 1)) = false := decide_eq_false c34
               clear c34
               obtain rfl := Option.some.inj H
               have p21 : 0 ≤ (0 : Int) := zz4
               have q21 : 0 < a2.size := (by have : (0 : Int) < (a2.size : Int) := of_decide_eq_true zz3; omega)
               have hx21 : ∀ h : 0 < a2.size, ((a2[0]'h).toNat : Int) = bt a2 0 := bt_at a2 0
               clear p21
               have qi21 : (0 < (a2.size : Int)) = True := eq_true (of_decide_eq_true zz3)
               replace q21 := eq_true q21
               have p30 : 0 ≤ (0 : Int) := zz4
               have q30 : 0 < a2.size := (by have : (0 : Int) < (a2.size : Int) := of_decide_eq_true zz3; omega)
               have hx30 : ∀ h : 0 < a2.size, ((a2[0]'h).toNat : Int) = bt a2 0 := bt_at a2 0
               clear p30
               have qi30 : (0 < (a2.size : Int)) = True := eq_true (of_decide_eq_true zz3)
               replace q30 := eq_true q30
               have p33 : 0 ≤ (1 : Int) := zz4
               have q33 : 1 < a2.size := (by have : (1 : Int) < (a2.size : Int) := of_decide_eq_true zz3; omega)
               have hx33 : ∀ h : 1 < a2.size, ((a2[1]'h).toNat : Int) = bt a2 1 := bt_at a2 1
               clear p33
               have qi33 : (1 < (a2.size : Int)) = True := eq_true (of_decide_eq_true zz3)
               replace q33 := eq_true q33
               go_wp2
               go_ret
               exact ⟨zz0, zz1⟩
             ·
              rw [if_neg c32] at H
              exact absurd H zz30
            ·
             rw [if_neg c31] at H
             have c31b0 : ((bt a2 0) == 255) = false := beq_eq_false_iff_ne.mpr c31
             have c31b1 : ((bt a2 0) != 255) = true := bne_iff_ne.mpr c31
             obtain rfl := Option.some.inj H
             have p21 : 0 ≤ (0 : Int) := zz4
             have q21 : 0 < a2.size := (by have : (0 : Int) < (a2.size : Int) := of_decide_eq_true zz3; omega)
             have hx21 : ∀ h : 0 < a2.size, ((a2[0]'h).toNat : Int) = bt a2 0 := bt_at a2 0
             clear p21
             have qi21 : (0 < (a2.size : Int)) = True := eq_true (of_decide_eq_true zz3)
             replace q21 := eq_true q21
             have p30 : 0 ≤ (0 : Int) := zz4
             have q30 : 0 < a2.size := (by have : (0 : Int) < (a2.size : Int) := of_decide_eq_true zz3; omega)
             have hx30 : ∀ h : 0 < a2.size, ((a2[0]'h).toNat : Int) = bt a2 0 := bt_at a2 0
             clear p30
             have qi30 : (0 < (a2.size : Int)) = True := eq_true (of_decide_eq_true zz3)
             replace q30 := eq_true q30
             go_wp2
             go_ret
             exact ⟨zz0, zz1⟩
          ·
           rw [if_neg c20] at H
           exact absurd H zz30
         ·
          rw [if_neg c19] at H
          have c19b0 : decide (1 < (a2.size : Int)) = false := decide_eq_false c19
          have c19b1 : decide (1 < a2.size) = false := decide_eq_false zz4
          clear c19
          obtain rfl := Option.some.inj H
          go_wp2
          go_ret
          exact ⟨zz0, zz1⟩
end Go.Proofs.Ytpfconocipmcjaa.PC
