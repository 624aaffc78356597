/- What the row of ValueFront stands on, made small by a program of this session (pack.py). -/
import Derived.ArgAppend
import Derived.Below
import Derived.BigQuiet
import Derived.Deep.AppendLies
import Derived.Deep.CutBlock
import Derived.Deep.DeepCutAuto
import Derived.Deep.Draws
import Derived.Deep.LoopGhost
import Derived.Deep.OwnRows
import Derived.Deep.QuietTactic
import Derived.Deep.RegionHeld3
import Derived.KernelRfl
import Derived.Laws.BitsLemmas
import Derived.Laws.BytesArg
import Derived.Laws.IdiomCopy
import Derived.Laws.MakeOwn
import Derived.Laws.OwnMore
import Derived.Laws.Rows
import Derived.Laws.Slices
import Derived.Lib.AppendStr
import Derived.Lib.ConvBytes
import Derived.Maps.AppendAt
import Derived.OrdersHeld
import Derived.OwnWalk
import Derived.RowKit
import Derived.RowKit3
import Derived.Tactics
import Derived.Test.YtpfconocipmcjaaProg
import Derived.WalkKit
import Derived.WideLaws
import Derived.Test.YtpfconocipmcjaaCValueFront0
import Derived.Test.YtpfconocipmcjaaCValueFront1
import Derived.Test.YtpfconocipmcjaaCValueFront2
import Derived.Test.YtpfconocipmcjaaCValueFront3
namespace Go.Proofs.Ytpfconocipmcjaa.PC
open Go.RowKit Go.Proofs.YtpfconocipmcjaaW.PrintWords Go.Proofs.YtpfconocipmcjaaW.PrintLast Go.Proofs.YtpfconocipmcjaaW.PrintMore
attribute [local go_sem] max2_int min2_int max_two min_two max_three min_three max_four min_four
set_option linter.unusedVariables false
set_option linter.unusedSimpArgs false
def errW : Option Int → Value
 | none => .nilIface
 | some c => .iface 0 (.int .i64 c)
theorem errW_none : errW none = .nilIface := rfl
theorem errW_some (c : Int) : errW (some c) = .iface 0 (.int .i64 c) := rfl
theorem bytesLess_turn : ∀ (x y : List UInt8), (Op.bytesLess x y || x == y) = !Op.bytesLess y x
 | [], [] => rfl
 | [], _ :: _ => rfl
 | _ :: _, [] => rfl
 | a :: x, b :: y => by
   have ih := bytesLess_turn x y
   simp only [Op.bytesLess, List.cons_beq_cons]
   rcases Nat.lt_trichotomy a.toNat b.toNat with h | h | h
   ·
    have h1 : a < b := UInt8.lt_iff_toNat_lt.2 h
    have h2 : ¬ b < a := fun hc => by have := UInt8.lt_iff_toNat_lt.1 hc; omega
    have h3 : ¬ b = a := fun hc => by subst hc; omega
    have h4 : ¬ a = b := fun hc => by subst hc; omega
    simp [h1, h2, h3, h4]
   ·
    obtain rfl := UInt8.toNat_inj.1 h
    simp [ih]
   ·
    have h1 : ¬ a < b := fun hc => by have := UInt8.lt_iff_toNat_lt.1 hc; omega
    have h2 : b < a := UInt8.lt_iff_toNat_lt.2 h
    have h4 : ¬ a = b := fun hc => by subst hc; omega
    simp [h1, h2, h4]
@[go_sem] theorem bin_leq (t : TypeId) (a b : ByteArray) : binOp .leq t (.string a) (.string b) = pure (.bool (!Op.bytesLess b.toList a.toList)) := by rw [← bytesLess_turn]; simp [binOp, Op.stringOp]
@[go_sem] theorem bin_gtr (t : TypeId) (a b : ByteArray) : binOp .gtr t (.string a) (.string b) = pure (.bool (Op.bytesLess b.toList a.toList)) := by rw [← Bool.not_not (Op.bytesLess b.toList a.toList), ← bytesLess_turn]; simp [binOp, Op.stringOp]
@[go_sem] theorem bin_geq (t : TypeId) (a b : ByteArray) : binOp .geq t (.string a) (.string b) = pure (.bool (!Op.bytesLess a.toList b.toList)) := by simp [binOp, Op.stringOp]
theorem info39 : (Try.prog.info? 39).map (fun i => (i.zero, i.size, i.bytes)) = some (some (.agg #[(.int .i64 0), (.int .i64 0), (.int .i64 0), (.int .i64 0), (.bool false), (.int .i64 0), (.int .u8 0)]), 7, 56) := by kernel_rfl
structure S37 where
 f0 : Int
 f1 : Int
 f2 : Bool
 f3 : Int
def z37 : S37 := ⟨(0 : Int), (0 : Int), false, (0 : Int)⟩
def k37 : Kd S37 := Kd.iso (Kd.pair (Kd.int .i64) (Kd.pair (Kd.int .i64) (Kd.pair Kd.bool (Kd.int .i64)))) (fun x : S37 => (x.f0, x.f1, x.f2, x.f3))
theorem k37_open {w : World} {x : S37} {cs : List Value} (h : k37.K w x cs) : cs = [.int .i64 x.f0, .int .i64 x.f1, .bool x.f2, .int .i64 x.f3] := by
 obtain ⟨_, _, rfl, rfl, ⟨_, _, rfl, rfl, ⟨_, _, rfl, rfl, rfl⟩⟩⟩ := h
 exact rfl
theorem k37_openM {w : World} {base : Nat} {ok : Nat → Prop} {x : S37} {cs : List Value} (h : k37.M w base ok x cs) : cs = [.int .i64 x.f0, .int .i64 x.f1, .bool x.f2, .int .i64 x.f3] := by
 obtain ⟨_, _, rfl, rfl, ⟨_, _, rfl, rfl, ⟨_, _, rfl, rfl, rfl⟩⟩⟩ := h
 exact rfl
theorem k37_mkM (w : World) (base : Nat) (ok : Nat → Prop) (x : S37)  : k37.M w base ok x [.int .i64 x.f0, .int .i64 x.f1, .bool x.f2, .int .i64 x.f3] := ⟨[.int .i64 x.f0], [.int .i64 x.f1, .bool x.f2, .int .i64 x.f3], rfl, rfl, ⟨[.int .i64 x.f1], [.bool x.f2, .int .i64 x.f3], rfl, rfl, ⟨[.bool x.f2], [.int .i64 x.f3], rfl, rfl, rfl⟩⟩⟩
structure S39 where
 f0 : Int
 f1 : Int
 f2 : S37
 f3 : Int
def z39 : S39 := ⟨(0 : Int), (0 : Int), z37, (0 : Int)⟩
def k39 : Kd S39 := Kd.iso (Kd.pair (Kd.int .i64) (Kd.pair (Kd.int .i64) (Kd.pair k37 (Kd.int .u8)))) (fun x : S39 => (x.f0, x.f1, x.f2, x.f3))
theorem k39_open {w : World} {x : S39} {cs : List Value} (h : k39.K w x cs) : cs = [.int .i64 x.f0, .int .i64 x.f1, .int .i64 x.f2.f0, .int .i64 x.f2.f1, .bool x.f2.f2, .int .i64 x.f2.f3, .int .u8 x.f3] := by
 obtain ⟨_, _, rfl, rfl, ⟨_, _, rfl, rfl, ⟨_, _, rfl, s2, rfl⟩⟩⟩ := h
 obtain rfl := k37_open s2
 exact rfl
theorem k39_openM {w : World} {base : Nat} {ok : Nat → Prop} {x : S39} {cs : List Value} (h : k39.M w base ok x cs) : cs = [.int .i64 x.f0, .int .i64 x.f1, .int .i64 x.f2.f0, .int .i64 x.f2.f1, .bool x.f2.f2, .int .i64 x.f2.f3, .int .u8 x.f3] := by
 obtain ⟨_, _, rfl, rfl, ⟨_, _, rfl, rfl, ⟨_, _, rfl, s2, rfl⟩⟩⟩ := h
 obtain rfl := k37_openM s2
 exact rfl
theorem k39_mkM (w : World) (base : Nat) (ok : Nat → Prop) (x : S39)  : k39.M w base ok x [.int .i64 x.f0, .int .i64 x.f1, .int .i64 x.f2.f0, .int .i64 x.f2.f1, .bool x.f2.f2, .int .i64 x.f2.f3, .int .u8 x.f3] := ⟨[.int .i64 x.f0], [.int .i64 x.f1, .int .i64 x.f2.f0, .int .i64 x.f2.f1, .bool x.f2.f2, .int .i64 x.f2.f3, .int .u8 x.f3], rfl, rfl, ⟨[.int .i64 x.f1], [.int .i64 x.f2.f0, .int .i64 x.f2.f1, .bool x.f2.f2, .int .i64 x.f2.f3, .int .u8 x.f3], rfl, rfl, ⟨[.int .i64 x.f2.f0, .int .i64 x.f2.f1, .bool x.f2.f2, .int .i64 x.f2.f3], [.int .u8 x.f3], rfl, (k37_mkM w base ok x.f2 ), rfl⟩⟩⟩
def rd_T39 (xs : List S39) (i : Int) : S39 := xs.getD i.toNat z39
theorem at_T39 {w : World} {A : Option Addr} {n : Nat} {xs : List S39} (h : Kd.C k39 w A n xs) (i : Int) (h0 : 0 ≤ i) (h1 : i < n) : ∃ ad , A = some ad ∧ w.cell? (ad.add (i.toNat * 7)) = some (.int .i64 (rd_T39 xs i).f0) ∧ w.cell? ⟨(ad.add (i.toNat * 7)).block, (ad.add (i.toNat * 7)).off + 1, none⟩ = some (.int .i64 (rd_T39 xs i).f1) ∧ w.cell? ⟨(ad.add (i.toNat * 7)).block, (ad.add (i.toNat * 7)).off + 2, none⟩ = some (.int .i64 (rd_T39 xs i).f2.f0) ∧ w.cell? ⟨(ad.add (i.toNat * 7)).block, (ad.add (i.toNat * 7)).off + 3, none⟩ = some (.int .i64 (rd_T39 xs i).f2.f1) ∧ w.cell? ⟨(ad.add (i.toNat * 7)).block, (ad.add (i.toNat * 7)).off + 4, none⟩ = some (.bool (rd_T39 xs i).f2.f2) ∧ w.cell? ⟨(ad.add (i.toNat * 7)).block, (ad.add (i.toNat * 7)).off + 5, none⟩ = some (.int .i64 (rd_T39 xs i).f2.f3) ∧ w.cell? ⟨(ad.add (i.toNat * 7)).block, (ad.add (i.toNat * 7)).off + 6, none⟩ = some (.int .u8 (rd_T39 xs i).f3) := by
 obtain ⟨ad, c, e, _, hK, hc0⟩ := Kd.C_get h z39 i h0 h1
 have hc : ∀ j u, c[j]? = some u → w.cell? (ad.add (i.toNat * 7 + j)) = some u := hc0
 obtain rfl := k39_open hK
 exact ⟨ad, e, hc 0 _ rfl, by rw [← add_field _ _ 1 zz18]; exact hc 1 _ rfl, by rw [← add_field _ _ 2 zz18]; exact hc 2 _ rfl, by rw [← add_field _ _ 3 zz18]; exact hc 3 _ rfl, by rw [← add_field _ _ 4 zz18]; exact hc 4 _ rfl, by rw [← add_field _ _ 5 zz18]; exact hc 5 _ rfl, by rw [← add_field _ _ 6 zz18]; exact hc 6 _ rfl⟩
end Go.Proofs.Ytpfconocipmcjaa.PC
namespace Go.Proofs.Ytpfconocipmcjaa.PC
open Go.RowKit Go.Proofs.YtpfconocipmcjaaW.PrintWords Go.Proofs.YtpfconocipmcjaaW.PrintLast Go.Proofs.YtpfconocipmcjaaW.PrintMore
attribute [local go_sem] max2_int min2_int max_two min_two max_three min_three max_four min_four
set_option linter.unusedVariables false
set_option linter.unusedSimpArgs false
def number_Start.j0 : Nat → Int → Int → Bool → Int → Bool → Option (Int × Int × Int × Int × Bool)
 | 0, _, _, _, _, _ => none
 | k + 1, x0, x1, x6, x9, x10 => if x10 = true then (if x1 > 0 then (some (x0, x1, 0, 0, true)) else (some (0, 0, 0, 0, false))) else (if x9 = 1 then (if x1 = 1 then (some (x0, x1, 0, 0, true)) else (some (0, 0, 0, 0, false))) else (if x9 = 5 then (if x1 = 0 then (some (x0, x1, 0, 0, true)) else (some (0, 0, 0, 0, false))) else (if x6 = true then (some (x0, x1, 0, 0, true)) else (some (0, 0, 0, 0, false)))))
def number_Start.f (k : Nat) (a0 : Int) (a1 : Int) : Option (Int × Int × Int × Int × Bool) := if a0 = 2 then (number_Start.j0 k a0 a1 (decide (a1 ≥ 0)) a0 (a0 == 2)) else (number_Start.j0 k a0 a1 (decide (a1 ≥ 0)) a0 (a0 == 10))
set_option maxHeartbeats 8000000 in
set_option maxRecDepth 100000 in
theorem number_Start.calls (k : Nat) (a0 : Int) (a1 : Int) (r1 : Int) (r2 : Int) (r3 : Int) (r4 : Int) (r5 : Bool) (w : World) (h : number_Start.f k a0 a1 = some (r1, r2, r3, r4, r5)) :
 Calls Try.prog 46 #[.int .i64 a0, .int .i64 a1] w fun e w' => e = .returned (.tuple #[.agg #[.int .i64 r1, .int .i64 r2, .int .i64 r3, .int .u8 r4], .bool r5]) ∧ Below w.heap.size w w' := by
 have hu81 := Try.underlying81
 have HB := Aside0.mk (Below.refl w.heap.size w)
 have H : (if a0 = 2 then (number_Start.j0 k a0 a1 (decide (a1 ≥ 0)) a0 (a0 == 2)) else (number_Start.j0 k a0 a1 (decide (a1 ≥ 0)) a0 (a0 == 10))) = some (r1, r2, r3, r4, r5) := h
 clear h
 have HC3 := Aside0.mk H
 clear H
 go_enter Try.func46, Try.ntmps46
 go_upto_if 10 with (first | ((with_reducible refine gate_dst (N := 4) rfl ?_); refine zzbx (N := 4) (cs := #[.int .i64 0, .int .i64 0, .int .i64 0, .int .u8 0]) (t := 81) ?_; intro gb176 hg w4 hbox hb; have n0_ := Aside0.mk (below_step zz0 hb); have n1_ := Aside0.mk (hbox); have n2_ := Aside0.mk ((zz12 : w.heap.size ≤ gb176)); have n3_ := Aside0.mk ((zz12 : w.heap.size ≤ gb176)); clear HB; have HB := n0_; have BK176 := n1_; have GW176 := n2_; have GE176 := n3_; clear n0_ n1_ n2_ n3_; clear hb hbox hg))
 (try simp only [Act.put, List.setIfInBounds_toArray, List.set_cons_zero, List.set_cons_succ])
 go_cut [10] (fun v10 wc => ∃ (kq : Nat) (x10_2 : Bool), v10 = .bool x10_2 ∧ Aside0 (number_Start.j0 kq a0 a1 (decide (a1 ≥ 0)) a0 x10_2 = some (r1, r2, r3, r4, r5)) ∧ Aside0 (kq ≤ k) ∧ Aside0 (wc.heap[gb176]? = some (.cells #[.int .i64 0, .int .i64 0, .int .i64 0, .int .u8 0] 81 (0, 0))) ∧ Aside0 (Below w.heap.size w wc))
 case first =>
  have H := HC3.out
  clear HC3
  by_cases c5 : a0 = 2
  ·
   rw [if_pos c5] at H
   have c5b0 : (a0 == 2) = true := beq_iff_eq.mpr c5
   have c5b1 : (a0 != 2) = false := bne_eq_false_iff_eq.mpr c5
   clear c5
   (first | rw [c5b0] | (simp only [i64_w, i32_w]; rw [c5b0]) | skip)
   have H' := Aside0.mk H
   clear H
   go_wp2
   go_meet
   case rel => exact ⟨_, ((a0 == 2)), zz1, H', ⟨zz49⟩, ⟨by (with_reducible repeat (first | refine blk_drewN ?_ _ | refine blk_drew ?_ | refine blk_alloc ?_ _)); exact BK176.out⟩, ⟨zz35⟩⟩
  ·
   rw [if_neg c5] at H
   have c5b0 : (a0 == 2) = false := beq_eq_false_iff_ne.mpr c5
   have c5b1 : (a0 != 2) = true := bne_iff_ne.mpr c5
   (first | rw [c5b0] | (simp only [i64_w, i32_w]; rw [c5b0]) | skip)
   have H' := Aside0.mk H
   clear H
   go_wp2
   go_meet
   case rel => exact ⟨_, ((a0 == 10)), zz1, H', ⟨zz49⟩, ⟨by (with_reducible repeat (first | refine blk_drewN ?_ _ | refine blk_drew ?_ | refine blk_alloc ?_ _)); exact BK176.out⟩, ⟨zz35⟩⟩
 case rest =>
  clear HC3
  try clear p2
  try clear c4
  try clear c5
  try clear c5b0
  try clear c5b1
  obtain ⟨kq, x10_2, rfl, HA, HJ2, BK176, HB⟩ := hcut
  cases kq with
  | zero => exact absurd HA.out (by simp [number_Start.j0])
  | succ kj2 =>
    have H := HA.out
    clear HA
    simp only [number_Start.j0] at H
    by_cases c6 : x10_2 = true
    ·
     subst c6
     have H1 : (if a1 > 0 then (some (a0, a1, 0, 0, true)) else (some (0, 0, 0, 0, false))) = some (r1, r2, r3, r4, r5) := by rw [if_pos rfl] at H; exact H
     clear H
     have H := H1
     clear H1
     by_cases c7 : a1 > 0
     ·
      rw [if_pos c7] at H
      have c7b0 : decide (0 < a1) = true := decide_eq_true c7
      clear c7
      simp only [Option.some.injEq, Prod.mk.injEq] at H
      obtain ⟨rfl, rfl, rfl, rfl, rfl⟩ := H
      have hcz8_0 : wc.cell? ⟨gb176, 0, none⟩ = some (.int .i64 0) := (blk_cell BK176.out 0).trans rfl
      have hcz8_1 : wc.cell? ⟨gb176, 1, none⟩ = some (.int .i64 0) := (blk_cell BK176.out 1).trans rfl
      have hcz8_2 : wc.cell? ⟨gb176, 2, none⟩ = some (.int .i64 0) := (blk_cell BK176.out 2).trans rfl
      have hcz8_3 : wc.cell? ⟨gb176, 3, none⟩ = some (.int .u8 0) := (blk_cell BK176.out 3).trans rfl
      have hfz8_0 := blk_frozen BK176.out 0
      have hfz8_1 := blk_frozen BK176.out 1
      have hfz8_2 := blk_frozen BK176.out 2
      have hfz8_3 := blk_frozen BK176.out 3
      go_wp2
      refine bodyPost_ret (results_ct rfl _ _ gb176 81 #[.int .i64 a0, .int .i64 a1, .int .i64 0, .int .u8 0] (0, 0) _ rfl zz11 Try.underlying81 rfl zz23) rfl ?_
      exact ⟨zz2, zz35⟩
     ·
      rw [if_neg c7] at H
      have c7b0 : decide (0 < a1) = false := decide_eq_false c7
      clear c7
      simp only [Option.some.injEq, Prod.mk.injEq] at H
      obtain ⟨rfl, rfl, rfl, rfl, rfl⟩ := H
      have hcz9_0 : wc.cell? ⟨gb176, 0, none⟩ = some (.int .i64 0) := (blk_cell BK176.out 0).trans rfl
      have hcz9_1 : wc.cell? ⟨gb176, 1, none⟩ = some (.int .i64 0) := (blk_cell BK176.out 1).trans rfl
      have hcz9_2 : wc.cell? ⟨gb176, 2, none⟩ = some (.int .i64 0) := (blk_cell BK176.out 2).trans rfl
      have hcz9_3 : wc.cell? ⟨gb176, 3, none⟩ = some (.int .u8 0) := (blk_cell BK176.out 3).trans rfl
      have hfz9_0 := blk_frozen BK176.out 0
      have hfz9_1 := blk_frozen BK176.out 1
      have hfz9_2 := blk_frozen BK176.out 2
      have hfz9_3 := blk_frozen BK176.out 3
      go_wp2
      refine bodyPost_ret (results_ct rfl _ _ gb176 81 #[.int .i64 0, .int .i64 0, .int .i64 0, .int .u8 0] (0, 0) _ rfl zz13 Try.underlying81 rfl zz23) rfl ?_
      exact ⟨zz2, zz35⟩
    ·
     replace c6 := Bool.eq_false_iff.mpr c6
     subst c6
     have H1 : (if a0 = 1 then (if a1 = 1 then (some (a0, a1, 0, 0, true)) else (some (0, 0, 0, 0, false))) else (if a0 = 5 then (if a1 = 0 then (some (a0, a1, 0, 0, true)) else (some (0, 0, 0, 0, false))) else (if (decide (a1 ≥ 0)) = true then (some (a0, a1, 0, 0, true)) else (some (0, 0, 0, 0, false))))) = some (r1, r2, r3, r4, r5) := by rw [if_neg (show ¬ (false = true) by decide)] at H; exact H
     clear H
     have H := H1
     clear H1
     by_cases c10 : a0 = 1
     ·
      rw [if_pos c10] at H
      have c10b0 : (a0 == 1) = true := beq_iff_eq.mpr c10
      have c10b1 : (a0 != 1) = false := bne_eq_false_iff_eq.mpr c10
      clear c10
      by_cases c11 : a1 = 1
      ·
       rw [if_pos c11] at H
       have c11b0 : (a1 == 1) = true := beq_iff_eq.mpr c11
       have c11b1 : (a1 != 1) = false := bne_eq_false_iff_eq.mpr c11
       clear c11
       simp only [Option.some.injEq, Prod.mk.injEq] at H
       obtain ⟨rfl, rfl, rfl, rfl, rfl⟩ := H
       have hcz12_0 : wc.cell? ⟨gb176, 0, none⟩ = some (.int .i64 0) := (blk_cell BK176.out 0).trans rfl
       have hcz12_1 : wc.cell? ⟨gb176, 1, none⟩ = some (.int .i64 0) := (blk_cell BK176.out 1).trans rfl
       have hcz12_2 : wc.cell? ⟨gb176, 2, none⟩ = some (.int .i64 0) := (blk_cell BK176.out 2).trans rfl
       have hcz12_3 : wc.cell? ⟨gb176, 3, none⟩ = some (.int .u8 0) := (blk_cell BK176.out 3).trans rfl
       have hfz12_0 := blk_frozen BK176.out 0
       have hfz12_1 := blk_frozen BK176.out 1
       have hfz12_2 := blk_frozen BK176.out 2
       have hfz12_3 := blk_frozen BK176.out 3
       go_wp2
       refine bodyPost_ret (results_ct rfl _ _ gb176 81 #[.int .i64 a0, .int .i64 a1, .int .i64 0, .int .u8 0] (0, 0) _ rfl zz11 Try.underlying81 rfl zz23) rfl ?_
       exact ⟨zz2, zz35⟩
      ·
       rw [if_neg c11] at H
       have c11b0 : (a1 == 1) = false := beq_eq_false_iff_ne.mpr c11
       have c11b1 : (a1 != 1) = true := bne_iff_ne.mpr c11
       simp only [Option.some.injEq, Prod.mk.injEq] at H
       obtain ⟨rfl, rfl, rfl, rfl, rfl⟩ := H
       have hcz13_0 : wc.cell? ⟨gb176, 0, none⟩ = some (.int .i64 0) := (blk_cell BK176.out 0).trans rfl
       have hcz13_1 : wc.cell? ⟨gb176, 1, none⟩ = some (.int .i64 0) := (blk_cell BK176.out 1).trans rfl
       have hcz13_2 : wc.cell? ⟨gb176, 2, none⟩ = some (.int .i64 0) := (blk_cell BK176.out 2).trans rfl
       have hcz13_3 : wc.cell? ⟨gb176, 3, none⟩ = some (.int .u8 0) := (blk_cell BK176.out 3).trans rfl
       have hfz13_0 := blk_frozen BK176.out 0
       have hfz13_1 := blk_frozen BK176.out 1
       have hfz13_2 := blk_frozen BK176.out 2
       have hfz13_3 := blk_frozen BK176.out 3
       go_wp2
       refine bodyPost_ret (results_ct rfl _ _ gb176 81 #[.int .i64 0, .int .i64 0, .int .i64 0, .int .u8 0] (0, 0) _ rfl zz13 Try.underlying81 rfl zz23) rfl ?_
       exact ⟨zz2, zz35⟩
     ·
      rw [if_neg c10] at H
      have c10b0 : (a0 == 1) = false := beq_eq_false_iff_ne.mpr c10
      have c10b1 : (a0 != 1) = true := bne_iff_ne.mpr c10
      by_cases c14 : a0 = 5
      ·
       rw [if_pos c14] at H
       have c14b0 : (a0 == 5) = true := beq_iff_eq.mpr c14
       have c14b1 : (a0 != 5) = false := bne_eq_false_iff_eq.mpr c14
       clear c14
       by_cases c15 : a1 = 0
       ·
        rw [if_pos c15] at H
        have c15b0 : (a1 == 0) = true := beq_iff_eq.mpr c15
        have c15b1 : (a1 != 0) = false := bne_eq_false_iff_eq.mpr c15
        clear c15
        simp only [Option.some.injEq, Prod.mk.injEq] at H
        obtain ⟨rfl, rfl, rfl, rfl, rfl⟩ := H
        have hcz16_0 : wc.cell? ⟨gb176, 0, none⟩ = some (.int .i64 0) := (blk_cell BK176.out 0).trans rfl
        have hcz16_1 : wc.cell? ⟨gb176, 1, none⟩ = some (.int .i64 0) := (blk_cell BK176.out 1).trans rfl
        have hcz16_2 : wc.cell? ⟨gb176, 2, none⟩ = some (.int .i64 0) := (blk_cell BK176.out 2).trans rfl
        have hcz16_3 : wc.cell? ⟨gb176, 3, none⟩ = some (.int .u8 0) := (blk_cell BK176.out 3).trans rfl
        have hfz16_0 := blk_frozen BK176.out 0
        have hfz16_1 := blk_frozen BK176.out 1
        have hfz16_2 := blk_frozen BK176.out 2
        have hfz16_3 := blk_frozen BK176.out 3
        go_wp2
        refine bodyPost_ret (results_ct rfl _ _ gb176 81 #[.int .i64 a0, .int .i64 a1, .int .i64 0, .int .u8 0] (0, 0) _ rfl zz11 Try.underlying81 rfl zz23) rfl ?_
        exact ⟨zz2, zz35⟩
       ·
        rw [if_neg c15] at H
        have c15b0 : (a1 == 0) = false := beq_eq_false_iff_ne.mpr c15
        have c15b1 : (a1 != 0) = true := bne_iff_ne.mpr c15
        simp only [Option.some.injEq, Prod.mk.injEq] at H
        obtain ⟨rfl, rfl, rfl, rfl, rfl⟩ := H
        have hcz17_0 : wc.cell? ⟨gb176, 0, none⟩ = some (.int .i64 0) := (blk_cell BK176.out 0).trans rfl
        have hcz17_1 : wc.cell? ⟨gb176, 1, none⟩ = some (.int .i64 0) := (blk_cell BK176.out 1).trans rfl
        have hcz17_2 : wc.cell? ⟨gb176, 2, none⟩ = some (.int .i64 0) := (blk_cell BK176.out 2).trans rfl
        have hcz17_3 : wc.cell? ⟨gb176, 3, none⟩ = some (.int .u8 0) := (blk_cell BK176.out 3).trans rfl
        have hfz17_0 := blk_frozen BK176.out 0
        have hfz17_1 := blk_frozen BK176.out 1
        have hfz17_2 := blk_frozen BK176.out 2
        have hfz17_3 := blk_frozen BK176.out 3
        go_wp2
        refine bodyPost_ret (results_ct rfl _ _ gb176 81 #[.int .i64 0, .int .i64 0, .int .i64 0, .int .u8 0] (0, 0) _ rfl zz13 Try.underlying81 rfl zz23) rfl ?_
        exact ⟨zz2, zz35⟩
      ·
       rw [if_neg c14] at H
       have c14b0 : (a0 == 5) = false := beq_eq_false_iff_ne.mpr c14
       have c14b1 : (a0 != 5) = true := bne_iff_ne.mpr c14
       by_cases c18 : (decide (a1 ≥ 0)) = true
       ·
        rw [if_pos c18] at H
        have c18b0 : (decide (a1 ≥ 0)) = true := c18
        clear c18
        simp only [Option.some.injEq, Prod.mk.injEq] at H
        obtain ⟨rfl, rfl, rfl, rfl, rfl⟩ := H
        have hcz19_0 : wc.cell? ⟨gb176, 0, none⟩ = some (.int .i64 0) := (blk_cell BK176.out 0).trans rfl
        have hcz19_1 : wc.cell? ⟨gb176, 1, none⟩ = some (.int .i64 0) := (blk_cell BK176.out 1).trans rfl
        have hcz19_2 : wc.cell? ⟨gb176, 2, none⟩ = some (.int .i64 0) := (blk_cell BK176.out 2).trans rfl
        have hcz19_3 : wc.cell? ⟨gb176, 3, none⟩ = some (.int .u8 0) := (blk_cell BK176.out 3).trans rfl
        have hfz19_0 := blk_frozen BK176.out 0
        have hfz19_1 := blk_frozen BK176.out 1
        have hfz19_2 := blk_frozen BK176.out 2
        have hfz19_3 := blk_frozen BK176.out 3
        go_wp2
        refine bodyPost_ret (results_ct rfl _ _ gb176 81 #[.int .i64 a0, .int .i64 a1, .int .i64 0, .int .u8 0] (0, 0) _ rfl zz11 Try.underlying81 rfl zz23) rfl ?_
        exact ⟨zz2, zz35⟩
       ·
        rw [if_neg c18] at H
        have c18b0 : (decide (a1 ≥ 0)) = false := by simpa using c18
        clear c18
        simp only [Option.some.injEq, Prod.mk.injEq] at H
        obtain ⟨rfl, rfl, rfl, rfl, rfl⟩ := H
        have hcz20_0 : wc.cell? ⟨gb176, 0, none⟩ = some (.int .i64 0) := (blk_cell BK176.out 0).trans rfl
        have hcz20_1 : wc.cell? ⟨gb176, 1, none⟩ = some (.int .i64 0) := (blk_cell BK176.out 1).trans rfl
        have hcz20_2 : wc.cell? ⟨gb176, 2, none⟩ = some (.int .i64 0) := (blk_cell BK176.out 2).trans rfl
        have hcz20_3 : wc.cell? ⟨gb176, 3, none⟩ = some (.int .u8 0) := (blk_cell BK176.out 3).trans rfl
        have hfz20_0 := blk_frozen BK176.out 0
        have hfz20_1 := blk_frozen BK176.out 1
        have hfz20_2 := blk_frozen BK176.out 2
        have hfz20_3 := blk_frozen BK176.out 3
        go_wp2
        refine bodyPost_ret (results_ct rfl _ _ gb176 81 #[.int .i64 0, .int .i64 0, .int .i64 0, .int .u8 0] (0, 0) _ rfl zz13 Try.underlying81 rfl zz23) rfl ?_
        exact ⟨zz2, zz35⟩
end Go.Proofs.Ytpfconocipmcjaa.PC
namespace Go.Proofs.Ytpfconocipmcjaa.PC
open Go.RowKit Go.Proofs.YtpfconocipmcjaaW.PrintWords Go.Proofs.YtpfconocipmcjaaW.PrintLast Go.Proofs.YtpfconocipmcjaaW.PrintMore
attribute [local go_sem] max2_int min2_int max_two min_two max_three min_three max_four min_four
set_option linter.unusedVariables false
set_option linter.unusedSimpArgs false
def number_State_Push.j0 : Nat → Int → Bool → Int → Int → Int → Int → Option (Int × Int × Int × Int × Bool)
 | 0, _, _, _, _, _, _ => none
 | k + 1, x1, x6, x178000, x178001, x178002, x178003 => if x6 = true then (if x178002 = 0 then (some (x178000, x178001, wrap64 (x178002 + 1), x1, true)) else (some (x178000, x178001, wrap64 (x178002 + 1), x178003, true))) else (some (0, 0, 0, 0, false))
def number_State_Push.f (k : Nat) (a0_0 : Int) (a0_1 : Int) (a0_2 : Int) (a0_3 : Int) (a1 : Int) : Option (Int × Int × Int × Int × Bool) := if a0_0 = 1 then (if a1 = 0 then (number_State_Push.j0 k a1 true a0_0 a0_1 a0_2 a0_3) else (number_State_Push.j0 k a1 (a1 == 255) a0_0 a0_1 a0_2 a0_3)) else (if a0_0 = 2 then (if a0_2 = 1 then (if a0_3 = 0 then (if a1 < 128 then (number_State_Push.j0 k a1 (!true) a0_0 a0_1 a0_2 a0_3) else (if a0_3 = 255 then (number_State_Push.j0 k a1 (!(decide (a1 ≥ 128))) a0_0 a0_1 a0_2 a0_3) else (number_State_Push.j0 k a1 (!false) a0_0 a0_1 a0_2 a0_3))) else (if a0_3 = 255 then (number_State_Push.j0 k a1 (!(decide (a1 ≥ 128))) a0_0 a0_1 a0_2 a0_3) else (number_State_Push.j0 k a1 (!false) a0_0 a0_1 a0_2 a0_3))) else (number_State_Push.j0 k a1 true a0_0 a0_1 a0_2 a0_3)) else (if a0_0 = 10 then (if a0_2 = 1 then (if a0_3 = 0 then (if a1 < 128 then (number_State_Push.j0 k a1 (!true) a0_0 a0_1 a0_2 a0_3) else (if a0_3 = 255 then (number_State_Push.j0 k a1 (!(decide (a1 ≥ 128))) a0_0 a0_1 a0_2 a0_3) else (number_State_Push.j0 k a1 (!false) a0_0 a0_1 a0_2 a0_3))) else (if a0_3 = 255 then (number_State_Push.j0 k a1 (!(decide (a1 ≥ 128))) a0_0 a0_1 a0_2 a0_3) else (number_State_Push.j0 k a1 (!false) a0_0 a0_1 a0_2 a0_3))) else (number_State_Push.j0 k a1 true a0_0 a0_1 a0_2 a0_3)) else (number_State_Push.j0 k a1 true a0_0 a0_1 a0_2 a0_3)))
set_option maxHeartbeats 8000000 in
set_option maxRecDepth 100000 in
theorem number_State_Push.calls (k : Nat) (a0_0 : Int) (a0_1 : Int) (a0_2 : Int) (a0_3 : Int) (a1 : Int) (r1 : Int) (r2 : Int) (r3 : Int) (r4 : Int) (r5 : Bool) (w : World) (h : number_State_Push.f k a0_0 a0_1 a0_2 a0_3 a1 = some (r1, r2, r3, r4, r5)) :
 Calls Try.prog 101 #[.agg #[.int .i64 a0_0, .int .i64 a0_1, .int .i64 a0_2, .int .u8 a0_3], .int .u8 a1] w fun e w' => e = .returned (.tuple #[.agg #[.int .i64 r1, .int .i64 r2, .int .i64 r3, .int .u8 r4], .bool r5]) ∧ Below w.heap.size w w' := by
 have hu81 := Try.underlying81
 have HB := Aside0.mk (Below.refl w.heap.size w)
 have H : (if a0_0 = 1 then (if a1 = 0 then (number_State_Push.j0 k a1 true a0_0 a0_1 a0_2 a0_3) else (number_State_Push.j0 k a1 (a1 == 255) a0_0 a0_1 a0_2 a0_3)) else (if a0_0 = 2 then (if a0_2 = 1 then (if a0_3 = 0 then (if a1 < 128 then (number_State_Push.j0 k a1 (!true) a0_0 a0_1 a0_2 a0_3) else (if a0_3 = 255 then (number_State_Push.j0 k a1 (!(decide (a1 ≥ 128))) a0_0 a0_1 a0_2 a0_3) else (number_State_Push.j0 k a1 (!false) a0_0 a0_1 a0_2 a0_3))) else (if a0_3 = 255 then (number_State_Push.j0 k a1 (!(decide (a1 ≥ 128))) a0_0 a0_1 a0_2 a0_3) else (number_State_Push.j0 k a1 (!false) a0_0 a0_1 a0_2 a0_3))) else (number_State_Push.j0 k a1 true a0_0 a0_1 a0_2 a0_3)) else (if a0_0 = 10 then (if a0_2 = 1 then (if a0_3 = 0 then (if a1 < 128 then (number_State_Push.j0 k a1 (!true) a0_0 a0_1 a0_2 a0_3) else (if a0_3 = 255 then (number_State_Push.j0 k a1 (!(decide (a1 ≥ 128))) a0_0 a0_1 a0_2 a0_3) else (number_State_Push.j0 k a1 (!false) a0_0 a0_1 a0_2 a0_3))) else (if a0_3 = 255 then (number_State_Push.j0 k a1 (!(decide (a1 ≥ 128))) a0_0 a0_1 a0_2 a0_3) else (number_State_Push.j0 k a1 (!false) a0_0 a0_1 a0_2 a0_3))) else (number_State_Push.j0 k a1 true a0_0 a0_1 a0_2 a0_3)) else (number_State_Push.j0 k a1 true a0_0 a0_1 a0_2 a0_3)))) = some (r1, r2, r3, r4, r5) := h
 clear h
 have HC3 := Aside0.mk H
 clear H
 go_enter Try.func101, Try.ntmps101
 go_upto_block 0 with (first | ((with_reducible refine gate_dst (N := 2) rfl ?_); refine zzbx (N := 2) (cs := #[.int .i64 a0_0, .int .i64 a0_1, .int .i64 a0_2, .int .u8 a0_3]) (t := 81) ?_; intro gb177 hg w4 hbox hb; have n0_ := Aside0.mk (below_step zz0 hb); have n1_ := Aside0.mk (hbox); have n2_ := Aside0.mk ((zz12 : w.heap.size ≤ gb177)); have n3_ := Aside0.mk ((zz12 : w.heap.size ≤ gb177)); clear HB; have HB := n0_; have BK177 := n1_; have GW177 := n2_; have GE177 := n3_; clear n0_ n1_ n2_ n3_; clear hb hbox hg) | ((with_reducible refine gate_dst (N := 4) rfl ?_); refine zzbx (N := 4) (cs := #[.int .i64 0, .int .i64 0, .int .i64 0, .int .u8 0]) (t := 81) ?_; intro gb178 hg w5 hbox hb; have n0_ := Aside0.mk (blk_below (g := gb177) (o := .cells #[.int .i64 a0_0, .int .i64 a0_1, .int .i64 a0_2, .int .u8 a0_3] 81 (0, 0)) zz21 hb); have n1_ := Aside0.mk (below_step zz71 hb); have n2_ := Aside0.mk (hbox); have n3_ := Aside0.mk ((by rw [hg]; exact (below_size zz71) : w.heap.size ≤ gb178)); have n4_ := Aside0.mk ((by rw [hg]; exact (below_size zz71) : w.heap.size ≤ gb178)); have n5_ := Aside0.mk ((by rw [hg]; exact Nat.ne_of_lt (blk_lt (g := gb177) (o := .cells #[.int .i64 a0_0, .int .i64 a0_1, .int .i64 a0_2, .int .u8 a0_3] 81 (0, 0)) zz21) : gb177 ≠ gb178)); have n6_ := Aside0.mk ((by rw [hg]; exact Nat.ne_of_gt (blk_lt (g := gb177) (o := .cells #[.int .i64 a0_0, .int .i64 a0_1, .int .i64 a0_2, .int .u8 a0_3] 81 (0, 0)) zz21) : gb178 ≠ gb177)); clear BK177; clear HB; have BK177 := n0_; have HB := n1_; have BK178 := n2_; have GW178 := n3_; have GE178 := n4_; have NB177_178 := n5_; have NB178_177 := n6_; clear n0_ n1_ n2_ n3_ n4_ n5_ n6_; clear hb hbox hg))
 (try simp only [Act.put, List.setIfInBounds_toArray, List.set_cons_zero, List.set_cons_succ])
 go_cut [6] (fun v6 wc => ∃ (kq : Nat) (x6_2 : Bool), v6 = .bool x6_2 ∧ Aside0 (number_State_Push.j0 kq a1 x6_2 a0_0 a0_1 a0_2 a0_3 = some (r1, r2, r3, r4, r5)) ∧ Aside0 (kq ≤ k) ∧ Aside0 (wc.heap[gb177]? = some (.cells #[.int .i64 a0_0, .int .i64 a0_1, .int .i64 a0_2, .int .u8 a0_3] 81 (0, 0))) ∧ Aside0 (wc.heap[gb178]? = some (.cells #[.int .i64 0, .int .i64 0, .int .i64 0, .int .u8 0] 81 (0, 0))) ∧ Aside0 (Below w.heap.size w wc))
 case first =>
  have H := HC3.out
  clear HC3
  by_cases c6 : a0_0 = 1
  ·
   rw [if_pos c6] at H
   have c6b0 : (a0_0 == 1) = true := beq_iff_eq.mpr c6
   have c6b1 : (a0_0 != 1) = false := bne_eq_false_iff_eq.mpr c6
   clear c6
   (first | rw [c6b0] | (simp only [i64_w, i32_w]; rw [c6b0]) | skip)
   by_cases c7 : a1 = 0
   ·
    rw [if_pos c7] at H
    have c7b0 : (a1 == 0) = true := beq_iff_eq.mpr c7
    have c7b1 : (a1 != 0) = false := bne_eq_false_iff_eq.mpr c7
    clear c7
    have H' := Aside0.mk H
    clear H
    have hnb8 := NB177_178.out
    have hnc8 := NB178_177.out
    have hcz9_0 : w5.cell? ⟨gb177, 0, none⟩ = some (.int .i64 a0_0) := (blk_cell BK177.out 0).trans rfl
    have hcz9_1 : w5.cell? ⟨gb177, 1, none⟩ = some (.int .i64 a0_1) := (blk_cell BK177.out 1).trans rfl
    have hcz9_2 : w5.cell? ⟨gb177, 2, none⟩ = some (.int .i64 a0_2) := (blk_cell BK177.out 2).trans rfl
    have hcz9_3 : w5.cell? ⟨gb177, 3, none⟩ = some (.int .u8 a0_3) := (blk_cell BK177.out 3).trans rfl
    have hfz9_0 := blk_frozen BK177.out 0
    have hfz9_1 := blk_frozen BK177.out 1
    have hfz9_2 := blk_frozen BK177.out 2
    have hfz9_3 := blk_frozen BK177.out 3
    go_wp2
    go_meet
    case rel => exact ⟨_, (true), zz1, H', ⟨zz49⟩, ⟨zz21⟩, ⟨zz31⟩, ⟨zz4⟩⟩
   ·
    rw [if_neg c7] at H
    have c7b0 : (a1 == 0) = false := beq_eq_false_iff_ne.mpr c7
    have c7b1 : (a1 != 0) = true := bne_iff_ne.mpr c7
    have H' := Aside0.mk H
    clear H
    have hnb10 := NB177_178.out
    have hnc10 := NB178_177.out
    have hcz11_0 : w5.cell? ⟨gb177, 0, none⟩ = some (.int .i64 a0_0) := (blk_cell BK177.out 0).trans rfl
    have hcz11_1 : w5.cell? ⟨gb177, 1, none⟩ = some (.int .i64 a0_1) := (blk_cell BK177.out 1).trans rfl
    have hcz11_2 : w5.cell? ⟨gb177, 2, none⟩ = some (.int .i64 a0_2) := (blk_cell BK177.out 2).trans rfl
    have hcz11_3 : w5.cell? ⟨gb177, 3, none⟩ = some (.int .u8 a0_3) := (blk_cell BK177.out 3).trans rfl
    have hfz11_0 := blk_frozen BK177.out 0
    have hfz11_1 := blk_frozen BK177.out 1
    have hfz11_2 := blk_frozen BK177.out 2
    have hfz11_3 := blk_frozen BK177.out 3
    go_wp2
    go_meet
    case rel => exact ⟨_, ((a1 == 255)), zz1, H', ⟨zz49⟩, ⟨zz21⟩, ⟨zz31⟩, ⟨zz4⟩⟩
  ·
   rw [if_neg c6] at H
   have c6b0 : (a0_0 == 1) = false := beq_eq_false_iff_ne.mpr c6
   have c6b1 : (a0_0 != 1) = true := bne_iff_ne.mpr c6
   (first | rw [c6b0] | (simp only [i64_w, i32_w]; rw [c6b0]) | skip)
   by_cases c12 : a0_0 = 2
   ·
    rw [if_pos c12] at H
    have c12b0 : (a0_0 == 2) = true := beq_iff_eq.mpr c12
    have c12b1 : (a0_0 != 2) = false := bne_eq_false_iff_eq.mpr c12
    clear c12
    by_cases c13 : a0_2 = 1
    ·
     rw [if_pos c13] at H
     have c13b0 : (a0_2 == 1) = true := beq_iff_eq.mpr c13
     have c13b1 : (a0_2 != 1) = false := bne_eq_false_iff_eq.mpr c13
     clear c13
     by_cases c14 : a0_3 = 0
     ·
      rw [if_pos c14] at H
      have c14b0 : (a0_3 == 0) = true := beq_iff_eq.mpr c14
      have c14b1 : (a0_3 != 0) = false := bne_eq_false_iff_eq.mpr c14
      clear c14
      by_cases c15 : a1 < 128
      ·
       rw [if_pos c15] at H
       have c15b0 : decide (a1 < 128) = true := decide_eq_true c15
       clear c15
       have H' := Aside0.mk H
       clear H
       have hnb16 := NB177_178.out
       have hnc16 := NB178_177.out
       have hcz17_0 : w5.cell? ⟨gb177, 0, none⟩ = some (.int .i64 a0_0) := (blk_cell BK177.out 0).trans rfl
       have hcz17_1 : w5.cell? ⟨gb177, 1, none⟩ = some (.int .i64 a0_1) := (blk_cell BK177.out 1).trans rfl
       have hcz17_2 : w5.cell? ⟨gb177, 2, none⟩ = some (.int .i64 a0_2) := (blk_cell BK177.out 2).trans rfl
       have hcz17_3 : w5.cell? ⟨gb177, 3, none⟩ = some (.int .u8 a0_3) := (blk_cell BK177.out 3).trans rfl
       have hfz17_0 := blk_frozen BK177.out 0
       have hfz17_1 := blk_frozen BK177.out 1
       have hfz17_2 := blk_frozen BK177.out 2
       have hfz17_3 := blk_frozen BK177.out 3
       go_wp2
       go_meet
       case rel => exact ⟨_, (!true), zz1, H', ⟨zz49⟩, ⟨zz21⟩, ⟨zz31⟩, ⟨zz4⟩⟩
      ·
       rw [if_neg c15] at H
       have c15b0 : decide (a1 < 128) = false := decide_eq_false c15
       clear c15
       by_cases c18 : a0_3 = 255
       ·
        rw [if_pos c18] at H
        have c18b0 : (a0_3 == 255) = true := beq_iff_eq.mpr c18
        have c18b1 : (a0_3 != 255) = false := bne_eq_false_iff_eq.mpr c18
        clear c18
        have H' := Aside0.mk H
        clear H
        have hnb19 := NB177_178.out
        have hnc19 := NB178_177.out
        have hcz20_0 : w5.cell? ⟨gb177, 0, none⟩ = some (.int .i64 a0_0) := (blk_cell BK177.out 0).trans rfl
        have hcz20_1 : w5.cell? ⟨gb177, 1, none⟩ = some (.int .i64 a0_1) := (blk_cell BK177.out 1).trans rfl
        have hcz20_2 : w5.cell? ⟨gb177, 2, none⟩ = some (.int .i64 a0_2) := (blk_cell BK177.out 2).trans rfl
        have hcz20_3 : w5.cell? ⟨gb177, 3, none⟩ = some (.int .u8 a0_3) := (blk_cell BK177.out 3).trans rfl
        have hfz20_0 := blk_frozen BK177.out 0
        have hfz20_1 := blk_frozen BK177.out 1
        have hfz20_2 := blk_frozen BK177.out 2
        have hfz20_3 := blk_frozen BK177.out 3
        go_wp2
        go_meet
        case rel => exact ⟨_, (!(decide (a1 ≥ 128))), zz1, H', ⟨zz49⟩, ⟨zz21⟩, ⟨zz31⟩, ⟨zz4⟩⟩
       ·
        rw [if_neg c18] at H
        have c18b0 : (a0_3 == 255) = false := beq_eq_false_iff_ne.mpr c18
        have c18b1 : (a0_3 != 255) = true := bne_iff_ne.mpr c18
        have H' := Aside0.mk H
        clear H
        have hnb21 := NB177_178.out
        have hnc21 := NB178_177.out
        have hcz22_0 : w5.cell? ⟨gb177, 0, none⟩ = some (.int .i64 a0_0) := (blk_cell BK177.out 0).trans rfl
        have hcz22_1 : w5.cell? ⟨gb177, 1, none⟩ = some (.int .i64 a0_1) := (blk_cell BK177.out 1).trans rfl
        have hcz22_2 : w5.cell? ⟨gb177, 2, none⟩ = some (.int .i64 a0_2) := (blk_cell BK177.out 2).trans rfl
        have hcz22_3 : w5.cell? ⟨gb177, 3, none⟩ = some (.int .u8 a0_3) := (blk_cell BK177.out 3).trans rfl
        have hfz22_0 := blk_frozen BK177.out 0
        have hfz22_1 := blk_frozen BK177.out 1
        have hfz22_2 := blk_frozen BK177.out 2
        have hfz22_3 := blk_frozen BK177.out 3
        go_wp2
        go_meet
        case rel => exact ⟨_, (!false), zz1, H', ⟨zz49⟩, ⟨zz21⟩, ⟨zz31⟩, ⟨zz4⟩⟩
     ·
      rw [if_neg c14] at H
      have c14b0 : (a0_3 == 0) = false := beq_eq_false_iff_ne.mpr c14
      have c14b1 : (a0_3 != 0) = true := bne_iff_ne.mpr c14
      by_cases c23 : a0_3 = 255
      ·
       rw [if_pos c23] at H
       have c23b0 : (a0_3 == 255) = true := beq_iff_eq.mpr c23
       have c23b1 : (a0_3 != 255) = false := bne_eq_false_iff_eq.mpr c23
       clear c23
       have H' := Aside0.mk H
       clear H
       have hnb24 := NB177_178.out
       have hnc24 := NB178_177.out
       have hcz25_0 : w5.cell? ⟨gb177, 0, none⟩ = some (.int .i64 a0_0) := (blk_cell BK177.out 0).trans rfl
       have hcz25_1 : w5.cell? ⟨gb177, 1, none⟩ = some (.int .i64 a0_1) := (blk_cell BK177.out 1).trans rfl
       have hcz25_2 : w5.cell? ⟨gb177, 2, none⟩ = some (.int .i64 a0_2) := (blk_cell BK177.out 2).trans rfl
       have hcz25_3 : w5.cell? ⟨gb177, 3, none⟩ = some (.int .u8 a0_3) := (blk_cell BK177.out 3).trans rfl
       have hfz25_0 := blk_frozen BK177.out 0
       have hfz25_1 := blk_frozen BK177.out 1
       have hfz25_2 := blk_frozen BK177.out 2
       have hfz25_3 := blk_frozen BK177.out 3
       go_wp2
       go_meet
       case rel => exact ⟨_, (!(decide (a1 ≥ 128))), zz1, H', ⟨zz49⟩, ⟨zz21⟩, ⟨zz31⟩, ⟨zz4⟩⟩
      ·
       rw [if_neg c23] at H
       have c23b0 : (a0_3 == 255) = false := beq_eq_false_iff_ne.mpr c23
       have c23b1 : (a0_3 != 255) = true := bne_iff_ne.mpr c23
       have H' := Aside0.mk H
       clear H
       have hnb26 := NB177_178.out
       have hnc26 := NB178_177.out
       have hcz27_0 : w5.cell? ⟨gb177, 0, none⟩ = some (.int .i64 a0_0) := (blk_cell BK177.out 0).trans rfl
       have hcz27_1 : w5.cell? ⟨gb177, 1, none⟩ = some (.int .i64 a0_1) := (blk_cell BK177.out 1).trans rfl
       have hcz27_2 : w5.cell? ⟨gb177, 2, none⟩ = some (.int .i64 a0_2) := (blk_cell BK177.out 2).trans rfl
       have hcz27_3 : w5.cell? ⟨gb177, 3, none⟩ = some (.int .u8 a0_3) := (blk_cell BK177.out 3).trans rfl
       have hfz27_0 := blk_frozen BK177.out 0
       have hfz27_1 := blk_frozen BK177.out 1
       have hfz27_2 := blk_frozen BK177.out 2
       have hfz27_3 := blk_frozen BK177.out 3
       go_wp2
       go_meet
       case rel => exact ⟨_, (!false), zz1, H', ⟨zz49⟩, ⟨zz21⟩, ⟨zz31⟩, ⟨zz4⟩⟩
    ·
     rw [if_neg c13] at H
     have c13b0 : (a0_2 == 1) = false := beq_eq_false_iff_ne.mpr c13
     have c13b1 : (a0_2 != 1) = true := bne_iff_ne.mpr c13
     have H' := Aside0.mk H
     clear H
     have hnb28 := NB177_178.out
     have hnc28 := NB178_177.out
     have hcz29_0 : w5.cell? ⟨gb177, 0, none⟩ = some (.int .i64 a0_0) := (blk_cell BK177.out 0).trans rfl
     have hcz29_1 : w5.cell? ⟨gb177, 1, none⟩ = some (.int .i64 a0_1) := (blk_cell BK177.out 1).trans rfl
     have hcz29_2 : w5.cell? ⟨gb177, 2, none⟩ = some (.int .i64 a0_2) := (blk_cell BK177.out 2).trans rfl
     have hcz29_3 : w5.cell? ⟨gb177, 3, none⟩ = some (.int .u8 a0_3) := (blk_cell BK177.out 3).trans rfl
     have hfz29_0 := blk_frozen BK177.out 0
     have hfz29_1 := blk_frozen BK177.out 1
     have hfz29_2 := blk_frozen BK177.out 2
     have hfz29_3 := blk_frozen BK177.out 3
     go_wp2
     go_meet
     case rel => exact ⟨_, (true), zz1, H', ⟨zz49⟩, ⟨zz21⟩, ⟨zz31⟩, ⟨zz4⟩⟩
   ·
    rw [if_neg c12] at H
    have c12b0 : (a0_0 == 2) = false := beq_eq_false_iff_ne.mpr c12
    have c12b1 : (a0_0 != 2) = true := bne_iff_ne.mpr c12
    by_cases c30 : a0_0 = 10
    ·
     rw [if_pos c30] at H
     have c30b0 : (a0_0 == 10) = true := beq_iff_eq.mpr c30
     have c30b1 : (a0_0 != 10) = false := bne_eq_false_iff_eq.mpr c30
     clear c30
     by_cases c31 : a0_2 = 1
     ·
      rw [if_pos c31] at H
      have c31b0 : (a0_2 == 1) = true := beq_iff_eq.mpr c31
      have c31b1 : (a0_2 != 1) = false := bne_eq_false_iff_eq.mpr c31
      clear c31
      by_cases c32 : a0_3 = 0
      ·
       rw [if_pos c32] at H
       have c32b0 : (a0_3 == 0) = true := beq_iff_eq.mpr c32
       have c32b1 : (a0_3 != 0) = false := bne_eq_false_iff_eq.mpr c32
       clear c32
       by_cases c33 : a1 < 128
       ·
        rw [if_pos c33] at H
        have c33b0 : decide (a1 < 128) = true := decide_eq_true c33
        clear c33
        have H' := Aside0.mk H
        clear H
        have hnb34 := NB177_178.out
        have hnc34 := NB178_177.out
        have hcz35_0 : w5.cell? ⟨gb177, 0, none⟩ = some (.int .i64 a0_0) := (blk_cell BK177.out 0).trans rfl
        have hcz35_1 : w5.cell? ⟨gb177, 1, none⟩ = some (.int .i64 a0_1) := (blk_cell BK177.out 1).trans rfl
        have hcz35_2 : w5.cell? ⟨gb177, 2, none⟩ = some (.int .i64 a0_2) := (blk_cell BK177.out 2).trans rfl
        have hcz35_3 : w5.cell? ⟨gb177, 3, none⟩ = some (.int .u8 a0_3) := (blk_cell BK177.out 3).trans rfl
        have hfz35_0 := blk_frozen BK177.out 0
        have hfz35_1 := blk_frozen BK177.out 1
        have hfz35_2 := blk_frozen BK177.out 2
        have hfz35_3 := blk_frozen BK177.out 3
        go_wp2
        go_meet
        case rel => exact ⟨_, (!true), zz1, H', ⟨zz49⟩, ⟨zz21⟩, ⟨zz31⟩, ⟨zz4⟩⟩
       ·
        rw [if_neg c33] at H
        have c33b0 : decide (a1 < 128) = false := decide_eq_false c33
        clear c33
        by_cases c36 : a0_3 = 255
        ·
         rw [if_pos c36] at H
         have c36b0 : (a0_3 == 255) = true := beq_iff_eq.mpr c36
         have c36b1 : (a0_3 != 255) = false := bne_eq_false_iff_eq.mpr c36
         clear c36
         have H' := Aside0.mk H
         clear H
         have hnb37 := NB177_178.out
         have hnc37 := NB178_177.out
         have hcz38_0 : w5.cell? ⟨gb177, 0, none⟩ = some (.int .i64 a0_0) := (blk_cell BK177.out 0).trans rfl
         have hcz38_1 : w5.cell? ⟨gb177, 1, none⟩ = some (.int .i64 a0_1) := (blk_cell BK177.out 1).trans rfl
         have hcz38_2 : w5.cell? ⟨gb177, 2, none⟩ = some (.int .i64 a0_2) := (blk_cell BK177.out 2).trans rfl
         have hcz38_3 : w5.cell? ⟨gb177, 3, none⟩ = some (.int .u8 a0_3) := (blk_cell BK177.out 3).trans rfl
         have hfz38_0 := blk_frozen BK177.out 0
         have hfz38_1 := blk_frozen BK177.out 1
         have hfz38_2 := blk_frozen BK177.out 2
         have hfz38_3 := blk_frozen BK177.out 3
         go_wp2
         go_meet
         case rel => exact ⟨_, (!(decide (a1 ≥ 128))), zz1, H', ⟨zz49⟩, ⟨zz21⟩, ⟨zz31⟩, ⟨zz4⟩⟩
        ·
         rw [if_neg c36] at H
         have c36b0 : (a0_3 == 255) = false := beq_eq_false_iff_ne.mpr c36
         have c36b1 : (a0_3 != 255) = true := bne_iff_ne.mpr c36
         have H' := Aside0.mk H
         clear H
         have hnb39 := NB177_178.out
         have hnc39 := NB178_177.out
         have hcz40_0 : w5.cell? ⟨gb177, 0, none⟩ = some (.int .i64 a0_0) := (blk_cell BK177.out 0).trans rfl
         have hcz40_1 : w5.cell? ⟨gb177, 1, none⟩ = some (.int .i64 a0_1) := (blk_cell BK177.out 1).trans rfl
         have hcz40_2 : w5.cell? ⟨gb177, 2, none⟩ = some (.int .i64 a0_2) := (blk_cell BK177.out 2).trans rfl
         have hcz40_3 : w5.cell? ⟨gb177, 3, none⟩ = some (.int .u8 a0_3) := (blk_cell BK177.out 3).trans rfl
         have hfz40_0 := blk_frozen BK177.out 0
         have hfz40_1 := blk_frozen BK177.out 1
         have hfz40_2 := blk_frozen BK177.out 2
         have hfz40_3 := blk_frozen BK177.out 3
         go_wp2
         go_meet
         case rel => exact ⟨_, (!false), zz1, H', ⟨zz49⟩, ⟨zz21⟩, ⟨zz31⟩, ⟨zz4⟩⟩
      ·
       rw [if_neg c32] at H
       have c32b0 : (a0_3 == 0) = false := beq_eq_false_iff_ne.mpr c32
       have c32b1 : (a0_3 != 0) = true := bne_iff_ne.mpr c32
       by_cases c41 : a0_3 = 255
       ·
        rw [if_pos c41] at H
        have c41b0 : (a0_3 == 255) = true := beq_iff_eq.mpr c41
        have c41b1 : (a0_3 != 255) = false := bne_eq_false_iff_eq.mpr c41
        clear c41
        have H' := Aside0.mk H
        clear H
        have hnb42 := NB177_178.out
        have hnc42 := NB178_177.out
        have hcz43_0 : w5.cell? ⟨gb177, 0, none⟩ = some (.int .i64 a0_0) := (blk_cell BK177.out 0).trans rfl
        have hcz43_1 : w5.cell? ⟨gb177, 1, none⟩ = some (.int .i64 a0_1) := (blk_cell BK177.out 1).trans rfl
        have hcz43_2 : w5.cell? ⟨gb177, 2, none⟩ = some (.int .i64 a0_2) := (blk_cell BK177.out 2).trans rfl
        have hcz43_3 : w5.cell? ⟨gb177, 3, none⟩ = some (.int .u8 a0_3) := (blk_cell BK177.out 3).trans rfl
        have hfz43_0 := blk_frozen BK177.out 0
        have hfz43_1 := blk_frozen BK177.out 1
        have hfz43_2 := blk_frozen BK177.out 2
        have hfz43_3 := blk_frozen BK177.out 3
        go_wp2
        go_meet
        case rel => exact ⟨_, (!(decide (a1 ≥ 128))), zz1, H', ⟨zz49⟩, ⟨zz21⟩, ⟨zz31⟩, ⟨zz4⟩⟩
       ·
        rw [if_neg c41] at H
        have c41b0 : (a0_3 == 255) = false := beq_eq_false_iff_ne.mpr c41
        have c41b1 : (a0_3 != 255) = true := bne_iff_ne.mpr c41
        have H' := Aside0.mk H
        clear H
        have hnb44 := NB177_178.out
        have hnc44 := NB178_177.out
        have hcz45_0 : w5.cell? ⟨gb177, 0, none⟩ = some (.int .i64 a0_0) := (blk_cell BK177.out 0).trans rfl
        have hcz45_1 : w5.cell? ⟨gb177, 1, none⟩ = some (.int .i64 a0_1) := (blk_cell BK177.out 1).trans rfl
        have hcz45_2 : w5.cell? ⟨gb177, 2, none⟩ = some (.int .i64 a0_2) := (blk_cell BK177.out 2).trans rfl
        have hcz45_3 : w5.cell? ⟨gb177, 3, none⟩ = some (.int .u8 a0_3) := (blk_cell BK177.out 3).trans rfl
        have hfz45_0 := blk_frozen BK177.out 0
        have hfz45_1 := blk_frozen BK177.out 1
        have hfz45_2 := blk_frozen BK177.out 2
        have hfz45_3 := blk_frozen BK177.out 3
        go_wp2
        go_meet
        case rel => exact ⟨_, (!false), zz1, H', ⟨zz49⟩, ⟨zz21⟩, ⟨zz31⟩, ⟨zz4⟩⟩
     ·
      rw [if_neg c31] at H
      have c31b0 : (a0_2 == 1) = false := beq_eq_false_iff_ne.mpr c31
      have c31b1 : (a0_2 != 1) = true := bne_iff_ne.mpr c31
      have H' := Aside0.mk H
      clear H
      have hnb46 := NB177_178.out
      have hnc46 := NB178_177.out
      have hcz47_0 : w5.cell? ⟨gb177, 0, none⟩ = some (.int .i64 a0_0) := (blk_cell BK177.out 0).trans rfl
      have hcz47_1 : w5.cell? ⟨gb177, 1, none⟩ = some (.int .i64 a0_1) := (blk_cell BK177.out 1).trans rfl
      have hcz47_2 : w5.cell? ⟨gb177, 2, none⟩ = some (.int .i64 a0_2) := (blk_cell BK177.out 2).trans rfl
      have hcz47_3 : w5.cell? ⟨gb177, 3, none⟩ = some (.int .u8 a0_3) := (blk_cell BK177.out 3).trans rfl
      have hfz47_0 := blk_frozen BK177.out 0
      have hfz47_1 := blk_frozen BK177.out 1
      have hfz47_2 := blk_frozen BK177.out 2
      have hfz47_3 := blk_frozen BK177.out 3
      go_wp2
      go_meet
      case rel => exact ⟨_, (true), zz1, H', ⟨zz49⟩, ⟨zz21⟩, ⟨zz31⟩, ⟨zz4⟩⟩
    ·
     rw [if_neg c30] at H
     have c30b0 : (a0_0 == 10) = false := beq_eq_false_iff_ne.mpr c30
     have c30b1 : (a0_0 != 10) = true := bne_iff_ne.mpr c30
     have H' := Aside0.mk H
     clear H
     have hnb48 := NB177_178.out
     have hnc48 := NB178_177.out
     have hcz49_0 : w5.cell? ⟨gb177, 0, none⟩ = some (.int .i64 a0_0) := (blk_cell BK177.out 0).trans rfl
     have hcz49_1 : w5.cell? ⟨gb177, 1, none⟩ = some (.int .i64 a0_1) := (blk_cell BK177.out 1).trans rfl
     have hcz49_2 : w5.cell? ⟨gb177, 2, none⟩ = some (.int .i64 a0_2) := (blk_cell BK177.out 2).trans rfl
     have hcz49_3 : w5.cell? ⟨gb177, 3, none⟩ = some (.int .u8 a0_3) := (blk_cell BK177.out 3).trans rfl
     have hfz49_0 := blk_frozen BK177.out 0
     have hfz49_1 := blk_frozen BK177.out 1
     have hfz49_2 := blk_frozen BK177.out 2
     have hfz49_3 := blk_frozen BK177.out 3
     go_wp2
     go_meet
     case rel => exact ⟨_, (true), zz1, H', ⟨zz49⟩, ⟨zz21⟩, ⟨zz31⟩, ⟨zz4⟩⟩
 case rest =>
  clear HC3
  try clear c1
  try clear c2
  try clear p2
  try clear c3
  try clear c4
  try clear c6
  try clear c6b0
  try clear c6b1
  try clear c7
  try clear c7b0
  try clear c7b1
  try clear c8
  try clear c10
  try clear c12
  try clear c12b0
  try clear c12b1
  try clear c13
  try clear c13b0
  try clear c13b1
  try clear c14
  try clear c14b0
  try clear c14b1
  try clear c15
  try clear c15b0
  try clear c16
  try clear c18
  try clear c18b0
  try clear c18b1
  try clear c19
  try clear c21
  try clear c23
  try clear c23b0
  try clear c23b1
  try clear c24
  try clear c26
  try clear c28
  try clear c30
  try clear c30b0
  try clear c30b1
  try clear c31
  try clear c31b0
  try clear c31b1
  try clear c32
  try clear c32b0
  try clear c32b1
  try clear c33
  try clear c33b0
  try clear c34
  try clear c36
  try clear c36b0
  try clear c36b1
  try clear c37
  try clear c39
  try clear c41
  try clear c41b0
  try clear c41b1
  try clear c42
  try clear c44
  try clear c46
  try clear c48
  try clear hcz11_0
  try clear hcz11_1
  try clear hcz11_2
  try clear hcz11_3
  try clear hcz17_0
  try clear hcz17_1
  try clear hcz17_2
  try clear hcz17_3
  try clear hcz20_0
  try clear hcz20_1
  try clear hcz20_2
  try clear hcz20_3
  try clear hcz22_0
  try clear hcz22_1
  try clear hcz22_2
  try clear hcz22_3
  try clear hcz25_0
  try clear hcz25_1
  try clear hcz25_2
  try clear hcz25_3
  try clear hcz27_0
  try clear hcz27_1
  try clear hcz27_2
  try clear hcz27_3
  try clear hcz29_0
  try clear hcz29_1
  try clear hcz29_2
  try clear hcz29_3
  try clear hcz35_0
  try clear hcz35_1
  try clear hcz35_2
  try clear hcz35_3
  try clear hcz38_0
  try clear hcz38_1
  try clear hcz38_2
  try clear hcz38_3
  try clear hcz40_0
  try clear hcz40_1
  try clear hcz40_2
  try clear hcz40_3
  try clear hcz43_0
  try clear hcz43_1
  try clear hcz43_2
  try clear hcz43_3
  try clear hcz45_0
  try clear hcz45_1
  try clear hcz45_2
  try clear hcz45_3
  try clear hcz47_0
  try clear hcz47_1
  try clear hcz47_2
  try clear hcz47_3
  try clear hcz49_0
  try clear hcz49_1
  try clear hcz49_2
  try clear hcz49_3
  try clear hcz9_0
  try clear hcz9_1
  try clear hcz9_2
  try clear hcz9_3
  try clear hfz11_0
  try clear hfz11_1
  try clear hfz11_2
  try clear hfz11_3
  try clear hfz17_0
  try clear hfz17_1
  try clear hfz17_2
  try clear hfz17_3
  try clear hfz20_0
  try clear hfz20_1
  try clear hfz20_2
  try clear hfz20_3
  try clear hfz22_0
  try clear hfz22_1
  try clear hfz22_2
  try clear hfz22_3
  try clear hfz25_0
  try clear hfz25_1
  try clear hfz25_2
  try clear hfz25_3
  try clear hfz27_0
  try clear hfz27_1
  try clear hfz27_2
  try clear hfz27_3
  try clear hfz29_0
  try clear hfz29_1
  try clear hfz29_2
  try clear hfz29_3
  try clear hfz35_0
  try clear hfz35_1
  try clear hfz35_2
  try clear hfz35_3
  try clear hfz38_0
  try clear hfz38_1
  try clear hfz38_2
  try clear hfz38_3
  try clear hfz40_0
  try clear hfz40_1
  try clear hfz40_2
  try clear hfz40_3
  try clear hfz43_0
  try clear hfz43_1
  try clear hfz43_2
  try clear hfz43_3
  try clear hfz45_0
  try clear hfz45_1
  try clear hfz45_2
  try clear hfz45_3
  try clear hfz47_0
  try clear hfz47_1
  try clear hfz47_2
  try clear hfz47_3
  try clear hfz49_0
  try clear hfz49_1
  try clear hfz49_2
  try clear hfz49_3
  try clear hfz9_0
  try clear hfz9_1
  try clear hfz9_2
  try clear hfz9_3
  obtain ⟨kq, x6_2, rfl, HA, HJ2, BK177, BK178, HB⟩ := hcut
  cases kq with
  | zero => exact absurd HA.out (by simp [number_State_Push.j0])
  | succ kj2 =>
    have H := HA.out
    clear HA
    simp only [number_State_Push.j0] at H
    by_cases c50 : x6_2 = true
    ·
     subst c50
     have H1 : (if a0_2 = 0 then (some (a0_0, a0_1, wrap64 (a0_2 + 1), a1, true)) else (some (a0_0, a0_1, wrap64 (a0_2 + 1), a0_3, true))) = some (r1, r2, r3, r4, r5) := by rw [if_pos rfl] at H; exact H
     clear H
     have H := H1
     clear H1
     by_cases c51 : a0_2 = 0
     ·
      rw [if_pos c51] at H
      have c51b0 : (a0_2 == 0) = true := beq_iff_eq.mpr c51
      have c51b1 : (a0_2 != 0) = false := bne_eq_false_iff_eq.mpr c51
      clear c51
      simp only [Option.some.injEq, Prod.mk.injEq] at H
      obtain ⟨rfl, rfl, rfl, rfl, rfl⟩ := H
      have hnb52 := NB177_178.out
      have hnc52 := NB178_177.out
      have hcz53_0 : wc.cell? ⟨gb177, 0, none⟩ = some (.int .i64 a0_0) := (blk_cell BK177.out 0).trans rfl
      have hcz53_1 : wc.cell? ⟨gb177, 1, none⟩ = some (.int .i64 a0_1) := (blk_cell BK177.out 1).trans rfl
      have hcz53_2 : wc.cell? ⟨gb177, 2, none⟩ = some (.int .i64 a0_2) := (blk_cell BK177.out 2).trans rfl
      have hcz53_3 : wc.cell? ⟨gb177, 3, none⟩ = some (.int .u8 a0_3) := (blk_cell BK177.out 3).trans rfl
      have hfz53_0 := blk_frozen BK177.out 0
      have hfz53_1 := blk_frozen BK177.out 1
      have hfz53_2 := blk_frozen BK177.out 2
      have hfz53_3 := blk_frozen BK177.out 3
      have hcz54_0 : wc.cell? ⟨gb178, 0, none⟩ = some (.int .i64 0) := (blk_cell BK178.out 0).trans rfl
      have hcz54_1 : wc.cell? ⟨gb178, 1, none⟩ = some (.int .i64 0) := (blk_cell BK178.out 1).trans rfl
      have hcz54_2 : wc.cell? ⟨gb178, 2, none⟩ = some (.int .i64 0) := (blk_cell BK178.out 2).trans rfl
      have hcz54_3 : wc.cell? ⟨gb178, 3, none⟩ = some (.int .u8 0) := (blk_cell BK178.out 3).trans rfl
      have hfz54_0 := blk_frozen BK178.out 0
      have hfz54_1 := blk_frozen BK178.out 1
      have hfz54_2 := blk_frozen BK178.out 2
      have hfz54_3 := blk_frozen BK178.out 3
      go_wp2
      refine bodyPost_ret (results_ct rfl _ _ gb178 81 #[.int .i64 a0_0, .int .i64 a0_1, .int .i64 (wrap64 (a0_2 + 1)), .int .u8 a1] (0, 0) _ rfl (by (with_reducible repeat (first | refine blk_drewN ?_ _ | refine blk_drew ?_ | refine blk_alloc ?_ _)); refine blk_put (cs := #[.int .i64 a0_0, .int .i64 a0_1, .int .i64 (wrap64 (a0_2 + 1)), .int .u8 0]) ?_ 3 _ rfl; (with_reducible repeat (first | refine blk_drewN ?_ _ | refine blk_drew ?_ | refine blk_alloc ?_ _)); refine blk_put (cs := #[.int .i64 a0_0, .int .i64 a0_1, .int .i64 0, .int .u8 0]) ?_ 2 _ rfl; (with_reducible repeat (first | refine blk_drewN ?_ _ | refine blk_drew ?_ | refine blk_alloc ?_ _)); refine blk_put (cs := #[.int .i64 a0_0, .int .i64 0, .int .i64 0, .int .u8 0]) ?_ 1 _ rfl; (with_reducible repeat (first | refine blk_drewN ?_ _ | refine blk_drew ?_ | refine blk_alloc ?_ _)); refine blk_put (cs := #[.int .i64 0, .int .i64 0, .int .i64 0, .int .u8 0]) ?_ 0 _ rfl; (with_reducible repeat (first | refine blk_drewN ?_ _ | refine blk_drew ?_ | refine blk_alloc ?_ _)); refine blk_far ?_ NB178_177.out _; (with_reducible repeat (first | refine blk_drewN ?_ _ | refine blk_drew ?_ | refine blk_alloc ?_ _)); refine blk_far ?_ NB178_177.out _; (with_reducible repeat (first | refine blk_drewN ?_ _ | refine blk_drew ?_ | refine blk_alloc ?_ _)); exact BK178.out) Try.underlying81 rfl zz23) rfl ?_
      exact ⟨zz2, zz4⟩
     ·
      rw [if_neg c51] at H
      have c51b0 : (a0_2 == 0) = false := beq_eq_false_iff_ne.mpr c51
      have c51b1 : (a0_2 != 0) = true := bne_iff_ne.mpr c51
      simp only [Option.some.injEq, Prod.mk.injEq] at H
      obtain ⟨rfl, rfl, rfl, rfl, rfl⟩ := H
      have hnb55 := NB177_178.out
      have hnc55 := NB178_177.out
      have hcz56_0 : wc.cell? ⟨gb177, 0, none⟩ = some (.int .i64 a0_0) := (blk_cell BK177.out 0).trans rfl
      have hcz56_1 : wc.cell? ⟨gb177, 1, none⟩ = some (.int .i64 a0_1) := (blk_cell BK177.out 1).trans rfl
      have hcz56_2 : wc.cell? ⟨gb177, 2, none⟩ = some (.int .i64 a0_2) := (blk_cell BK177.out 2).trans rfl
      have hcz56_3 : wc.cell? ⟨gb177, 3, none⟩ = some (.int .u8 a0_3) := (blk_cell BK177.out 3).trans rfl
      have hfz56_0 := blk_frozen BK177.out 0
      have hfz56_1 := blk_frozen BK177.out 1
      have hfz56_2 := blk_frozen BK177.out 2
      have hfz56_3 := blk_frozen BK177.out 3
      have hcz57_0 : wc.cell? ⟨gb178, 0, none⟩ = some (.int .i64 0) := (blk_cell BK178.out 0).trans rfl
      have hcz57_1 : wc.cell? ⟨gb178, 1, none⟩ = some (.int .i64 0) := (blk_cell BK178.out 1).trans rfl
      have hcz57_2 : wc.cell? ⟨gb178, 2, none⟩ = some (.int .i64 0) := (blk_cell BK178.out 2).trans rfl
      have hcz57_3 : wc.cell? ⟨gb178, 3, none⟩ = some (.int .u8 0) := (blk_cell BK178.out 3).trans rfl
      have hfz57_0 := blk_frozen BK178.out 0
      have hfz57_1 := blk_frozen BK178.out 1
      have hfz57_2 := blk_frozen BK178.out 2
      have hfz57_3 := blk_frozen BK178.out 3
      go_wp2
      refine bodyPost_ret (results_ct rfl _ _ gb178 81 #[.int .i64 a0_0, .int .i64 a0_1, .int .i64 (wrap64 (a0_2 + 1)), .int .u8 a0_3] (0, 0) _ rfl (by (with_reducible repeat (first | refine blk_drewN ?_ _ | refine blk_drew ?_ | refine blk_alloc ?_ _)); refine blk_put (cs := #[.int .i64 a0_0, .int .i64 a0_1, .int .i64 (wrap64 (a0_2 + 1)), .int .u8 0]) ?_ 3 _ rfl; (with_reducible repeat (first | refine blk_drewN ?_ _ | refine blk_drew ?_ | refine blk_alloc ?_ _)); refine blk_put (cs := #[.int .i64 a0_0, .int .i64 a0_1, .int .i64 0, .int .u8 0]) ?_ 2 _ rfl; (with_reducible repeat (first | refine blk_drewN ?_ _ | refine blk_drew ?_ | refine blk_alloc ?_ _)); refine blk_put (cs := #[.int .i64 a0_0, .int .i64 0, .int .i64 0, .int .u8 0]) ?_ 1 _ rfl; (with_reducible repeat (first | refine blk_drewN ?_ _ | refine blk_drew ?_ | refine blk_alloc ?_ _)); refine blk_put (cs := #[.int .i64 0, .int .i64 0, .int .i64 0, .int .u8 0]) ?_ 0 _ rfl; (with_reducible repeat (first | refine blk_drewN ?_ _ | refine blk_drew ?_ | refine blk_alloc ?_ _)); refine blk_far ?_ NB178_177.out _; (with_reducible repeat (first | refine blk_drewN ?_ _ | refine blk_drew ?_ | refine blk_alloc ?_ _)); exact BK178.out) Try.underlying81 rfl zz23) rfl ?_
      exact ⟨zz2, zz4⟩
    ·
     replace c50 := Bool.eq_false_iff.mpr c50
     subst c50
     have H1 : (some (0, 0, 0, 0, false)) = some (r1, r2, r3, r4, r5) := by rw [if_neg (show ¬ (false = true) by decide)] at H; exact H
     clear H
     have H := H1
     clear H1
     simp only [Option.some.injEq, Prod.mk.injEq] at H
     obtain ⟨rfl, rfl, rfl, rfl, rfl⟩ := H
     have hnb58 := NB178_177.out
     have hnc58 := NB177_178.out
     have hcz59_0 : wc.cell? ⟨gb178, 0, none⟩ = some (.int .i64 0) := (blk_cell BK178.out 0).trans rfl
     have hcz59_1 : wc.cell? ⟨gb178, 1, none⟩ = some (.int .i64 0) := (blk_cell BK178.out 1).trans rfl
     have hcz59_2 : wc.cell? ⟨gb178, 2, none⟩ = some (.int .i64 0) := (blk_cell BK178.out 2).trans rfl
     have hcz59_3 : wc.cell? ⟨gb178, 3, none⟩ = some (.int .u8 0) := (blk_cell BK178.out 3).trans rfl
     have hfz59_0 := blk_frozen BK178.out 0
     have hfz59_1 := blk_frozen BK178.out 1
     have hfz59_2 := blk_frozen BK178.out 2
     have hfz59_3 := blk_frozen BK178.out 3
     go_wp2
     refine bodyPost_ret (results_ct rfl _ _ gb178 81 #[.int .i64 0, .int .i64 0, .int .i64 0, .int .u8 0] (0, 0) _ rfl (by (with_reducible repeat (first | refine blk_drewN ?_ _ | refine blk_drew ?_ | refine blk_alloc ?_ _)); refine blk_put (cs := #[.int .i64 0, .int .i64 0, .int .i64 0, .int .u8 0]) ?_ 3 _ rfl; (with_reducible repeat (first | refine blk_drewN ?_ _ | refine blk_drew ?_ | refine blk_alloc ?_ _)); refine blk_put (cs := #[.int .i64 0, .int .i64 0, .int .i64 0, .int .u8 0]) ?_ 2 _ rfl; (with_reducible repeat (first | refine blk_drewN ?_ _ | refine blk_drew ?_ | refine blk_alloc ?_ _)); refine blk_put (cs := #[.int .i64 0, .int .i64 0, .int .i64 0, .int .u8 0]) ?_ 1 _ rfl; (with_reducible repeat (first | refine blk_drewN ?_ _ | refine blk_drew ?_ | refine blk_alloc ?_ _)); refine blk_put (cs := #[.int .i64 0, .int .i64 0, .int .i64 0, .int .u8 0]) ?_ 0 _ rfl; (with_reducible repeat (first | refine blk_drewN ?_ _ | refine blk_drew ?_ | refine blk_alloc ?_ _)); exact BK178.out) Try.underlying81 rfl zz23) rfl ?_
     exact ⟨zz2, zz4⟩
end Go.Proofs.Ytpfconocipmcjaa.PC
namespace Go.Proofs.Ytpfconocipmcjaa.PC
open Go.RowKit Go.Proofs.YtpfconocipmcjaaW.PrintWords Go.Proofs.YtpfconocipmcjaaW.PrintLast Go.Proofs.YtpfconocipmcjaaW.PrintMore
attribute [local go_sem] max2_int min2_int max_two min_two max_three min_three max_four min_four
set_option linter.unusedVariables false
set_option linter.unusedSimpArgs false
end Go.Proofs.Ytpfconocipmcjaa.PC
