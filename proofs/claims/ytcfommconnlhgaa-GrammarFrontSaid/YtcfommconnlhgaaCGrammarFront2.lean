/- What the row of GrammarFront stands on, made small by a program of this session (pack.py). -/
import Derived.ArgAppend
import Derived.Below
import Derived.BigQuiet
import Derived.ChangeOld
import Derived.Deep.AppendLies
import Derived.Deep.CutBlock
import Derived.Deep.DeepCutAuto
import Derived.Deep.Draws
import Derived.Deep.LoopGhost
import Derived.Deep.OwnRows
import Derived.Deep.QuietTactic
import Derived.Deep.RegionHeld3
import Derived.Deep.RegionLaw
import Derived.Great.BuildSlice
import Derived.KernelRfl
import Derived.Laws.BitsLemmas
import Derived.Laws.BytesArg
import Derived.Laws.CopyRow
import Derived.Laws.EntriesVeiled
import Derived.Laws.IdiomCopy
import Derived.Laws.MakeOwn
import Derived.Laws.OwnMore
import Derived.Laws.Rows
import Derived.Laws.Slices
import Derived.Laws.StructEq
import Derived.Laws.Tables
import Derived.Lib.AppendStr
import Derived.Lib.Bytes
import Derived.Lib.ConvBytes
import Derived.Lib.SmallJoins
import Derived.Maps.AppendAt
import Derived.OpenShut
import Derived.OrdersHeld
import Derived.Outline
import Derived.OwnWalk
import Derived.ProofKit
import Derived.RowKit
import Derived.RowKit3
import Derived.Shelf.Small.Strs
import Derived.Shelf.Strings.Search1
import Derived.ShutString
import Derived.SizedLaws
import Derived.Tactics
import Derived.WalkKit
import Derived.WideLaws
import Derived.Test.YtcfommconnlhgaaCGrammarFront0
import Derived.Test.YtcfommconnlhgaaCGrammarFront1
namespace Go
open Go.RowKit Go.Proofs.YtcfommconnlhgaaW.PrintWords
theorem zz0 {p : Prop} (h : p := by first | rfl | (simp; done) | (simp [*]; done) | (simp [show ∀ l : List UInt8, (!l.isEmpty) = (l != []) from fun l => by cases l <;> rfl]; done)) : p := h
theorem zz1 {p : Prop} (h : p := by first | (go_simp; done) | (go_simp; rfl)) : p := h
theorem zz2 {p : Prop} (h : p := by (with_reducible repeat (first | refine blk_drewN ?_ _ | refine blk_drew ?_ | refine blk_alloc ?_ _)); refine blk_put (cs := #[.int .i64 0, .int .i64 0, .bool false, .int .i64 x103003_2]) ?_ 3 _ rfl; (with_reducible repeat (first | refine blk_drewN ?_ _ | refine blk_drew ?_ | refine blk_alloc ?_ _)); refine blk_put (cs := #[.int .i64 0, .int .i64 0, .bool x103002_2, .int .i64 x103003_2]) ?_ 2 _ rfl; (with_reducible repeat (first | refine blk_drewN ?_ _ | refine blk_drew ?_ | refine blk_alloc ?_ _)); refine blk_put (cs := #[.int .i64 0, .int .i64 x103001_2, .bool x103002_2, .int .i64 x103003_2]) ?_ 1 _ rfl; (with_reducible repeat (first | refine blk_drewN ?_ _ | refine blk_drew ?_ | refine blk_alloc ?_ _)); refine blk_put (cs := #[.int .i64 x103000_2, .int .i64 x103001_2, .bool x103002_2, .int .i64 x103003_2]) ?_ 0 _ rfl; (with_reducible repeat (first | refine blk_drewN ?_ _ | refine blk_drew ?_ | refine blk_alloc ?_ _)); exact BK102.out) : p := h
theorem zz3 {p : Prop} (h : p := by exact bl B_G) : p := h
theorem zz4 {p : Prop} (h : p := by omega) : p := h
theorem zz5 {p : Prop} (h : p := by kernel_rfl) : p := h
theorem zz6 {p : Prop} (h : p := by repeat (first | exact Drawn0.refl _ | apply Drawn0.step)) : p := h
theorem zz7 {p : Prop} (h : p := by exact ul HU) : p := h
theorem zz8 {p : Prop} (h : p := by decide) : p := h
theorem zz9 {p : Prop} (h : p := by repeat (first | (with_reducible first | exact HB.out | apply below_alloc | apply pw_below_drewN | apply below_drew1 | refine below_set ?_ GE102.out | refine below_set ?_ GE103.out) | exact HB.out)) : p := h
theorem zz10 {p : Prop} (h : p := by first | (with_reducible assumption) | assumption) : p := h
theorem zz11 {p : Prop} (h : p := by exact P_K.out.updN lu) : p := h
theorem zz12 {p : Prop} (h : p := by repeat (first | (with_reducible first | exact HB.out | apply below_alloc | apply pw_below_drewN | apply below_drew1 | refine below_set ?_ GE102.out) | exact HB.out)) : p := h
theorem zz13 {p : Prop} (h : p := by exact P_R.out.updN lu) : p := h
theorem zz14 {p : Prop} (h : p := by (with_reducible repeat (first | refine blk_drewN ?_ _ | refine blk_drew ?_ | refine blk_alloc ?_ _)); exact BK102.out) : p := h
theorem zz15 {p : Prop} (h : p := by exact rl R_C) : p := h
theorem zz16 {p : Prop} (h : p := by simp [Value.oneCell']) : p := h
theorem zz17 {p : Prop} (h : p := by first | rfl | (simp [errW_none, errW_some] <;> rfl) | (simp [*, errW_none, errW_some] <;> rfl)) : p := h
theorem zz18 {p : Prop} (h : p := by exact bl B_H) : p := h
theorem zz19 {p : Prop} (h : p := by simp) : p := h
theorem zz20 {p : Prop} (h : p := by repeat (first | (with_reducible first | exact HB.out | apply below_alloc | apply pw_below_drewN | apply below_drew1) | exact HB.out)) : p := h
theorem zz21 {p : Prop} (h : p := by exact bl B_R) : p := h
theorem zz22 {p : Prop} (h : p := by rw [hk]; exact IN_G.out) : p := h
theorem zz23 {p : Prop} (h : p := by (try simp only [List.map_toArray, List.map_cons, List.map_nil]); first | done | (simp only [hji13]; rfl) | rfl | (simp only [List.length_drop, List.length_take]; rfl)) : p := h
theorem zz24 {p : Prop} (h : p := by (try simp only [List.map_toArray, List.map_cons, List.map_nil]); first | done | (simp only [hji5]; rfl) | rfl | (simp only [List.length_drop, List.length_take]; rfl)) : p := h
theorem zz25 {p : Prop} (h : p := by exact hS.lt) : p := h
theorem zz26 {p : Prop} (h : p := by have := HI.out.2.2.2; have := HLEN.out; have := HX.out; have h7_ := congrArg List.length e1_; rw [List.length_append] at h7_; first | omega | (rw [List.length_append]; omega)) : p := h
theorem zz27 {p : Prop} (h : p := by (with_reducible repeat (first | refine blk_drewN ?_ _ | refine blk_drew ?_ | refine blk_alloc ?_ _)); exact BK103.out) : p := h
theorem zz28 {p : Prop} (h : p := by exact hS.pre1) : p := h
theorem zz29 {p : Prop} (h : p := by simp; omega) : p := h
theorem zz30 {p : Prop} (h : p := by rw [hk]; exact GE_H.out) : p := h
theorem zzbx {P : Program} {ops : Array Oper} {rest : List Oper} {o : Oper} {a : Act} {Q : Exit → Act → World → Prop} {W : World} {N : Tmp} {cs : Array Value} {t : TypeId}
 (h : ∀ g, g = W.heap.size → ∀ w1, w1.heap[g]? = some (.cells cs t (0, 0)) → Below W.heap.size W w1 → wpList P ops Q rest (a.put o.dst (.pointer (some ⟨g, 0, none⟩))) w1) (hgd : o.guard = none := by rfl) (hd : o.dst = some N := by rfl)
 (hrun : (execOp a.eval o).run P W = .ok (.value (.pointer (some ⟨W.heap.size, 0, none⟩))) (W.alloc (.cells cs t (0, 0))) := by first | (go_simp; done) | (go_simp; rfl)) : wpList P ops Q (o :: rest) a W := Go.Proofs.YtcfommconnlhgaaW.PrintWords.box_event hgd hd hrun h
end Go
