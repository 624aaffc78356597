/- What the row of EncodeSorts stands on, made small by a program of this session (pack.py). -/
import Derived.ArgAppend
import Derived.Below
import Derived.BigQuiet
import Derived.Deep.AppendLies
import Derived.Deep.CutBlock
import Derived.Deep.DeepCutAuto
import Derived.Deep.Draws
import Derived.Deep.LoopGhost
import Derived.Deep.OwnRows
import Derived.Deep.QuietTactic
import Derived.Deep.RegionHeld3
import Derived.Deep.RegionLaw
import Derived.Great.BuildSlice
import Derived.Ground.Names2Prog
import Derived.KernelRfl
import Derived.Laws.BitsLemmas
import Derived.Laws.BytesArg
import Derived.Laws.CopyRow
import Derived.Laws.IdiomCopy
import Derived.Laws.MakeOwn
import Derived.Laws.OwnMore
import Derived.Laws.Rows
import Derived.Laws.Slices
import Derived.Laws.Tables
import Derived.Lib.AppendStr
import Derived.Lib.Bytes
import Derived.Lib.ConvBytes
import Derived.Maps.AppendAt
import Derived.OrdersHeld
import Derived.Outline
import Derived.OwnWalk
import Derived.RowKit
import Derived.RowKit3
import Derived.Shelf.Slices.Clone
import Derived.Shelf.Small.Strs
import Derived.Shelf.Strings.Builder1
import Derived.Shelf.Strings.Builder2
import Derived.Shelf.Strings.Builder2Cap
import Derived.Shelf.Strings.BuilderCap
import Derived.Shelf.Strings.BuilderF
import Derived.Shelf.Strings.BuilderK
import Derived.Shelf.Strings.OnBuilder
import Derived.Shelf.Strings.Search1
import Derived.Tactics
import Derived.Test.YtgddaddoabjgiaaProg
import Derived.WalkKit
import Derived.WideLaws
import Derived.Test.YtgddaddoabjgiaaCEncodeSorts0
import Derived.Test.YtgddaddoabjgiaaCEncodeSorts1
import Derived.Test.YtgddaddoabjgiaaCEncodeSorts2
namespace Go.Proofs.Ytgddaddoabjgiaa.Own
open RowKit YtgddaddoabjgiaaW.PrintWords YtgddaddoabjgiaaW.PrintLast YtgddaddoabjgiaaW.PrintMore
set_option linter.unusedVariables false
structure Upd (S : Nat → Prop) (w W : World) : Prop where
 os : W.os = w.os
 tape : W.tape = w.tape
 output : W.output = w.output
 size : w.heap.size ≤ W.heap.size
 block : ∀ k, k < w.heap.size → ¬ S k → W.heap[k]? = w.heap[k]?
def New (w : World) (S : Nat → Prop) : Nat → Prop := fun k => S k ∨ w.heap.size ≤ k
def None0 : Nat → Prop := fun _ => False
section
variable {S S' T : Nat → Prop} {w W W2 : World}
theorem Upd.refl (S : Nat → Prop) (w : World) : Upd S w w := ⟨rfl, rfl, rfl, Nat.le_refl _, fun _ _ _ => rfl⟩
theorem Upd.of_below (h : Below w.heap.size w W) : Upd S w W := ⟨h.os, h.tape, h.output, h.size, fun k hk _ => h.block k hk⟩
theorem Upd.below (h : Upd S w W) (hS : ∀ k, k < w.heap.size → ¬ S k) : Below w.heap.size w W := ⟨h.os, h.tape, h.output, h.size, fun k hk => h.block k hk (hS k hk)⟩
theorem Upd.below0 (h : Upd None0 w W) : Below w.heap.size w W := h.below (fun _ _ h => h)
theorem Upd.mono (h : Upd S w W) (hs : ∀ k, S k → S' k) : Upd S' w W := ⟨h.os, h.tape, h.output, h.size, fun k hk hn => h.block k hk (fun e => hn (hs k e))⟩
theorem Upd.trans (h : Upd S w W) (k : Upd T W W2) (hT : ∀ k, T k → S k ∨ w.heap.size ≤ k) : Upd S w W2 :=
 ⟨k.os.trans h.os, k.tape.trans h.tape, k.output.trans h.output, Nat.le_trans h.size k.size, fun i hi hn => (k.block i (Nat.lt_of_lt_of_le hi h.size) (fun e => (hT i e).elim hn (fun e2 => by omega))).trans (h.block i hi hn)⟩
theorem Upd.alloc (h : Upd S w W) (o : Obj) : Upd S w (W.alloc o) := h.trans (Upd.of_below (S := None0) (below_alloc (Below.refl _ _) o)) (fun _ e => e.elim)
theorem Upd.drew (h : Upd S w W) : Upd S w W.drew := ⟨h.os, h.tape, h.output, h.size, h.block⟩
theorem Upd.drewN (h : Upd S w W) (n : Nat) : Upd S w (W.drewN n) := ⟨h.os, h.tape, h.output, h.size, h.block⟩
theorem Upd.setCell (h : Upd S w W) {g j : Nat} (hg : S g ∨ w.heap.size ≤ g) (v : Value) : Upd S w (W.setCell ⟨g, j, none⟩ v) :=
 ⟨h.os, h.tape, h.output, by simpa [World.setCell] using h.size, fun k hk hn => (Below.heap_setCell W ⟨g, j, none⟩ v k (fun e => by
  have e : k = g := e
  subst e
  exact hg.elim hn (fun e2 => by omega))).trans (h.block k hk hn)⟩
theorem Upd.grown {row : Option Nat} (hg : W.grownBy W2 row) (hr : ∀ k, row = some k → S k) : Upd S W W2 := ⟨hg.os, hg.tape, hg.output, hg.size, fun k hk hn => hg.block k hk (fun e => hn (hr k e.symm))⟩
theorem Upd.blk (h : Upd S w W) {g : Nat} {o : Obj} (hb : w.heap[g]? = some o) (hg : ¬ S g) : W.heap[g]? = some o := (h.block g (blk_lt hb) hg).trans hb
theorem Upd.step (h : Upd S w W) (hT : ∀ k, T k → ¬ S k) : ∀ k, T k → k < w.heap.size → W.heap[k]? = w.heap[k]? := fun k hk hlt => h.block k hlt (hT k hk)
theorem New.old {k : Nat} (h : S k) : New w S k := .inl h
theorem New.mono (hs : ∀ k, S k → S' k) : ∀ k, New w S k → New w S' k := fun k h => h.imp (hs k) id
end
theorem reps_one {α : Type} {R : α → List Value → Prop} {size : Nat} {p : α} {c : List Value} (h : R p c) (hc : c.length = size) : Reps R size [p] c := by
 have := (Reps.none R size).snoc h hc
 simpa using this
section
variable {α : Type} {d : Kd α} {e : Nat} {w W : World} {S T S' : Nat → Prop} {v : Value} {xs : List α}
theorem row_upd (h : d.R e w 0 T v xs) (hu : Upd S w W) (hd : ∀ k, T k → ¬ S k) : d.R e W 0 T v xs := Kd.R_step h (hu.step hd)
theorem row_mono (h : d.R e w 0 T v xs) (hs : ∀ k, T k → S k) : d.R e w 0 S v xs := Kd.R_mono h hs
def BlkT (w : World) (g t : Nat) : Prop := ∃ cs, w.heap[g]? = some (.cells cs t (0, 0))
theorem BlkT.set {g t : Nat} (h : BlkT w g t) (i : Nat) (u : Value) : BlkT (w.setCell ⟨g, i, none⟩ u) g t := by
 obtain ⟨cs, h⟩ := h
 exact ⟨_, blk_set h i u⟩
theorem BlkT.drew {g t : Nat} (h : BlkT w g t) : BlkT w.drew g t := h
theorem row_at (h : d.R e w 0 T v xs) {k : Nat} (hk : some k = v.ownBlock) : T k := h.1 k hk.symm
theorem row_old (h : d.R e w 0 T v xs) : d.R e w 0 (fun k => T k ∧ k < w.heap.size) v xs := Kd.R_mono (Kd.R_bound h) (fun k hk => ⟨hk.1, hk.2.2.1⟩)
end
def Bnd (w : World) (E : List Nat) (S : Nat → Prop) : Nat → Prop := fun k => S k ∧ k < w.heap.size ∧ ∃ q, q ∈ E ∧ ∃ cells, w.heap[k]? = some (.cells cells q (0, 0))
theorem Bnd.row {α : Type} {d : Kd α} {e : Nat} {T : Nat → Prop} {v : Value} {xs : List α} {w : World} {E : List Nat} (h : d.R e w 0 T v xs) (hE : ∀ q, q ∈ e :: d.E → q ∈ E) : d.R e w 0 (Bnd w E T) v xs :=
 Kd.R_mono (Kd.R_bound h) (fun k hk => ⟨hk.1, hk.2.2.1, by obtain ⟨q, hq, hc⟩ := hk.2.2.2; exact ⟨q, hE q hq, hc⟩⟩)
theorem Bnd.blk {w : World} {E : List Nat} {S : Nat → Prop} {g t : Nat} {cs : Array Value} (hg : S g) (hb : w.heap[g]? = some (.cells cs t (0, 0))) (ht : t ∈ E) : Bnd w E S g := ⟨hg, blk_lt hb, t, ht, cs, hb⟩
theorem Bnd.mono {w : World} {E E' : List Nat} {S S' : Nat → Prop} (hs : ∀ k, S k → S' k) (hE : ∀ q, q ∈ E → q ∈ E') : ∀ k, Bnd w E S k → Bnd w E' S' k := fun k h => ⟨hs k h.1, h.2.1, by obtain ⟨q, hq, hc⟩ := h.2.2; exact ⟨q, hE q hq, hc⟩⟩
section
variable {P : Program} {ops : Array Oper} {rest : List Oper} {o : Oper} {a : Act} {Q : Exit → Act → World → Prop} {α : Type}
theorem row_append (d : Kd α) {W : World} {S : Nat → Prop} (hgd : o.guard = none) (s x : Operand) (t e : TypeId) (z : Value) (bytes : Nat)
 (ho : o.op = .call { callee := .builtin .append, args := #[s, x], argTypes := #[t, t] })
 (ht : P.underlying t = some (.slice e)) (hinfo : (P.info? e).map (fun i => (i.zero, i.size, i.bytes)) = some (some z, d.sz, bytes)) (hz : z.cells.size = d.sz) (hs0 : 0 < d.sz) (hb0 : 0 < bytes)
 (v : Value) (xs : List α) (p : α) (cs : List Value) (hs : a.eval s = v) (hx : a.eval x = .slice (some ⟨W.heap.size, 0, none⟩) 1 1) (hp : d.M W 0 (fun _ => False) p cs)
 (HO : d.R e W 0 S v xs) (hl : (xs.length + 1) * bytes ≤ 140737488355328) (ys : List α) (hy : xs ++ [p] = ys)
 (h : ∀ v1 w1, d.R e w1 0 (New W S) v1 ys → Upd (fun k => some k = v.ownBlock) W w1 → wpList P ops Q rest (a.put o.dst v1) w1) :
 wpList P ops Q (o :: rest) a (W.alloc (.cells cs.toArray e)) := by
 refine Kd.R_append d (w0 := W) 0 hgd s x t e z bytes ho ht hinfo hz hs0 hb0 v xs p cs (New W S) (fun _ => False) hs hx hp (fun _ h => h.elim) (fun k hk => .inr hk) (row_mono HO (fun _ h => .inl h)) ⟨rfl, rfl, rfl, Nat.le_refl _, fun _ _ => rfl⟩ (Nat.zero_le _) hl ?_
 intro v1 w1 h1 _ hg hat
 subst hy
 exact h v1 w1 h1 (Upd.grown hg (fun k hk => hk.symm))
end
section
variable {P : Program} {ops : Array Oper} {o : Oper} {a : Act} {Q : Exit → Act → World → Prop} {Kc : Act → World → Prop} {α : Type}
end
section
variable {P : Program} {ops : Array Oper} {rest : List Oper} {o : Oper} {a : Act} {Q : Exit → Act → World → Prop} {α : Type}
theorem row_lit (d : Kd α) {W : World} (e : Nat) (hgd : o.guard = none) {N : Tmp} (hd : o.dst = some N) {xs : List α} {inner : List Value}
 (hrun : (execOp a.eval o).run P W = .ok (.value (.slice (some ⟨W.heap.size, 0, none⟩) xs.length xs.length)) (W.alloc (.cells inner.toArray e)))
 (hrep : Reps (d.M W 0 (fun _ => False)) d.sz xs inner) (hm : xs.length ≤ 9223372036854775807)
 (h : ∀ v1 w1, d.R e w1 0 (New W None0) v1 xs → Upd None0 W w1 → wpList P ops Q rest (a.put o.dst v1) w1) : wpList P ops Q (o :: rest) a W := by
 refine Kd.R_lit d (w0 := W) 0 e hgd hd (ok := New W None0) hrun hrep (fun _ h => h.elim) (.inr (Nat.le_refl _)) ⟨rfl, rfl, rfl, Nat.le_refl _, fun _ _ => rfl⟩ (Nat.zero_le _) hm ?_
 intro v1 w1 h1 _ hg _
 exact h v1 w1 h1 (Upd.grown hg (fun k hk => by cases hk))
theorem row_append_rows (d : Kd α) {W : World} {S : Nat → Prop} (hgd : o.guard = none) (s x : Operand) (t e : TypeId) (z : Value) (bytes : Nat)
 (ho : o.op = .call { callee := .builtin .append, args := #[s, x], argTypes := #[t, t] })
 (ht : P.underlying t = some (.slice e)) (hinfo : (P.info? e).map (fun i => (i.zero, i.size, i.bytes)) = some (some z, d.sz, bytes)) (hz : z.cells.size = d.sz) (hs0 : 0 < d.sz) (hb0 : 0 < bytes)
 (v : Value) (xs ys : List α) (A : Option Addr) (m c : Nat) (hs : a.eval s = v) (hx : a.eval x = .slice A m c)
 (HO : d.R e W 0 S v xs) (HR : d.C W A m ys) (hKM : ∀ x cs, d.K W x cs → d.M W 0 (fun _ => False) x cs) (hl : (xs.length + m) * bytes ≤ 140737488355328)
 (zs : List α) (hy : xs ++ ys = zs) (h : ∀ v1 w1, d.R e w1 0 (New W S) v1 zs → Upd (fun k => some k = v.ownBlock) W w1 → wpList P ops Q rest (a.put o.dst v1) w1) :
 wpList P ops Q (o :: rest) a W := by
 refine Kd.R_append_rows d (Rr := d.K W) (w0 := W) 0 hgd s x t e z bytes ho ht hinfo hz hs0 hb0 v xs ys A m c (New W S) (fun _ => False) hs hx (row_mono HO (fun _ h => .inl h)) HR hKM (fun _ h => h.elim) (fun k hk => .inr hk) ⟨rfl, rfl, rfl, Nat.le_refl _, fun _ _ => rfl⟩ (Nat.zero_le _) hl ?_
 intro v1 w1 h1 _ hg hat
 subst hy
 exact h v1 w1 h1 (Upd.grown hg (fun k hk => hk.symm))
end
section
variable {P : Program} {ops : Array Oper} {rest : List Oper} {o : Oper} {a : Act} {Q : Exit → Act → World → Prop}
theorem upd_setRow (W : World) (g : Nat) (cs : Array Value) : Upd (fun k => k = g) W (W.setRow g cs) := ⟨rfl, rfl, rfl, by simp [World.setRow], fun k _ hk => setRow_other W g k cs hk⟩
theorem rowput {W : World} (hgd : o.guard = none) (ty : TypeId) (x y : Operand) (ho : o.op = .store ty x y) (hd : o.dst = none) (g : Nat) (cells : Array Value) (hx : a.eval x = .pointer (some ⟨g, 0, none⟩)) (hy : a.eval y = .agg cells)
 (t : TypeId) (old : Array Value) (hg : W.heap[g]? = some (.cells old t (0, 0))) (hi : (P.info? ty).map (·.size) = some cells.size) (hold : old.size = cells.size) (h1 : cells.all (·.oneCell') = true)
 (h : ∀ w', w'.heap[g]? = some (.cells cells t (0, 0)) → Upd (fun k => k = g) W w' → wpList P ops Q rest a w') : wpList P ops Q (o :: rest) a W :=
 wpList_store_row hgd ty x y ho g cells hx hy t old hg hi hold h1 (by
  have e : a.put o.dst undef = a := by rw [hd]; rfl
  rw [e]
  exact h _ (setRow_heap W g old cells t (0, 0) hg) (upd_setRow W g cells))
theorem cellput {W : World} (hgd : o.guard = none) (ty : TypeId) (x y : Operand) (ho : o.op = .store ty x y) (hd : o.dst = none) (g i : Nat) (v : Value) (hx : a.eval x = .pointer (some ⟨g, i, none⟩)) (hy : a.eval y = v)
 (t : TypeId) (old new : Array Value) (hg : W.heap[g]? = some (.cells old t (0, 0))) (hi : (P.info? ty).map (·.size) = some 1) (hlt : i < old.size) (h1 : v.oneCell' = true) (hn : old.setIfInBounds i v = new)
 (h : ∀ w', w'.heap[g]? = some (.cells new t (0, 0)) → Upd (fun k => k = g) W w' → wpList P ops Q rest a w') : wpList P ops Q (o :: rest) a W := by
 refine wpList_plain hgd fun K hK => ?_
 have hcell : W.cell? ⟨g, i, none⟩ = some old[i] := by rw [cell_of_row W g i old t (0, 0) hg, Array.getElem?_eq_getElem hlt]
 have hfro : W.frozen? ⟨g, i, none⟩ = false := frozen_of_row W g i old t hg
 have hadd : (⟨g, i, none⟩ : Addr).add 0 = ⟨g, i, none⟩ := rfl
 have hst : (store ((⟨g, i, none⟩ : Addr).add 0) v).run P W = .ok () (W.setCell ⟨g, i, none⟩ v) := by
  rw [hadd, run_store P W _ v _ h1, hcell]
  simp [hfro]
 have hc : v.cells = #[v] := by cases v <;> first | rfl | cases h1
 have hsv : (storeVar ty ⟨g, i, none⟩ v).run P W = .ok () (W.setCell ⟨g, i, none⟩ v) := by
  cases hq : P.info? ty with
  | none => simp [hq] at hi
  | some j =>
    have hs : j.size = 1 := by simpa [hq] using hi
    simp [storeVar, sizeOf, typeInfo, hq, hc, hs, storeCells, hst]
 unfold Oper.wp execOp
 simp only [ho, hx, hy, Instr.storeAt, Instr.sureAddr, Sem.run_bind, Sem.run_pure, Result.andThen_ok, hsv]
 refine hK _ _ ?_
 have e : a.put o.dst undef = a := by rw [hd]; rfl
 rw [e]
 refine h _ (blk_put hg i v hn) ?_
 rw [setCell_eq_setRow W g i old t (0, 0) v hg]
 exact upd_setRow W g _
theorem boxnew {W : World} (hgd : o.guard = none) {N : Tmp} (hd : o.dst = some N) {cs : Array Value} {t : TypeId}
 (hrun : (execOp a.eval o).run P W = .ok (.value (.pointer (some ⟨W.heap.size, 0, none⟩))) (W.alloc (.cells cs t (0, 0))))
 (h : ∀ g, W.heap.size ≤ g → ∀ w1, w1.heap[g]? = some (.cells cs t (0, 0)) → Upd None0 W w1 → wpList P ops Q rest (a.put o.dst (.pointer (some ⟨g, 0, none⟩))) w1) : wpList P ops Q (o :: rest) a W :=
 box_event hgd hd hrun (fun g hg w1 hb hl => h g zz7 w1 hb (Upd.of_below hl))
end
abbrev Lt (a b : World) : Prop := Nonempty (PLift (Upd None0 a b))
theorem Lt.u {a b : World} (h : Lt a b) : Upd None0 a b := h.elim (fun q => q.down)
instance lt_refl (a : World) : Lt a a := ⟨⟨Upd.refl _ a⟩⟩
instance lt_drew (a b : World) [h : Lt a b] : Lt a b.drew := ⟨⟨(Lt.u h).drew⟩⟩
instance lt_drewN (a b : World) (n : Nat) [h : Lt a b] : Lt a (b.drewN n) := ⟨⟨(Lt.u h).drewN n⟩⟩
instance lt_alloc (a b : World) (o : Obj) [h : Lt a b] : Lt a (b.alloc o) := ⟨⟨(Lt.u h).alloc o⟩⟩
theorem lu {a b : World} [h : Lt a b] : Upd None0 a b := Lt.u h
theorem bl {a b : World} [h : Lt a b] {g : Nat} {o : Obj} (hb : Aside0 (a.heap[g]? = some o)) : b.heap[g]? = some o := (Lt.u h).blk hb.out (fun h => h)
end Go.Proofs.Ytgddaddoabjgiaa.Own
namespace Go.Proofs.Ytgddaddoabjgiaa.Sl
open RowKit YtgddaddoabjgiaaW.PrintWords YtgddaddoabjgiaaW.PrintLast YtgddaddoabjgiaaW.PrintMore Own
set_option linter.unusedVariables false
structure Ast where
 P : World → (Nat → Prop) → Prop
 up : ∀ {w W : World} {S T : Nat → Prop}, P w S → Upd T w W → (∀ k, S k → ¬ T k) → P W S
 mo : ∀ {w : World} {S S' : Nat → Prop}, P w S → (∀ k, S k → S' k) → P w S'
 old : ∀ {w : World} {S : Nat → Prop}, P w S → P w (fun k => S k ∧ k < w.heap.size)
def Hs (w : World) (S : Nat → Prop) (l : List Ast) : Prop :=
 ∃ own : Nat → Nat, (∀ k, own k ≠ 0 → S k) ∧ ∀ (i : Nat) (a : Ast), l[i]? = some a → a.P w (fun k => own k = i + 1)
theorem Hs.up {w W : World} {S T : Nat → Prop} {l : List Ast} (h : Hs w S l) (hu : Upd T w W) (hd : ∀ k, S k → ¬ T k) : Hs W S l := by
 obtain ⟨own, h1, h2⟩ := h
 exact ⟨own, h1, fun i a ha => a.up (h2 i a ha) hu (fun k hk => hd k (h1 k zz7))⟩
theorem Hs.mo {w : World} {S S' : Nat → Prop} {l : List Ast} (h : Hs w S l) (hs : ∀ k, S k → S' k) : Hs w S' l := by
 obtain ⟨own, h1, h2⟩ := h
 exact ⟨own, fun k hk => hs k (h1 k hk), h2⟩
open Classical in
theorem Hs.old {w : World} {S : Nat → Prop} {l : List Ast} (h : Hs w S l) : Hs w (fun k => S k ∧ k < w.heap.size) l := by
 obtain ⟨own, h1, h2⟩ := h
 refine ⟨fun k => if k < w.heap.size then own k else 0, fun k hk => ?_, fun i a ha => a.mo (a.old (h2 i a ha)) (fun k hk => ?_)⟩
 ·
  dsimp only at hk
  by_cases hlt : k < w.heap.size
  ·
   rw [if_pos hlt] at hk; exact ⟨h1 k hk, hlt⟩
  ·
   rw [if_neg hlt] at hk; exact absurd rfl hk
 ·
  exact (if_pos hk.2).trans hk.1
def blk (g : Nat) (cs : Array Value) (t : Nat) : Ast where
 P w S := S g ∧ w.heap[g]? = some (.cells cs t (0, 0))
 up h hu hd := ⟨h.1, hu.blk h.2 (hd g h.1)⟩
 mo h hs := ⟨hs g h.1, h.2⟩
 old h := ⟨⟨h.1, blk_lt h.2⟩, h.2⟩
def row {α : Type} (d : Kd α) (e : Nat) (v : Value) (xs : List α) : Ast where
 P w S := d.R e w 0 S v xs
 up h hu hd := row_upd h hu hd
 mo h hs := row_mono h hs
 old h := row_old h
def ex {α : Type} (f : α → Ast) : Ast where
 P w S := ∃ a, (f a).P w S
 up h hu hd := h.elim fun a h => ⟨a, (f a).up h hu hd⟩
 mo h hs := h.elim fun a h => ⟨a, (f a).mo h hs⟩
 old h := h.elim fun a h => ⟨a, (f a).old h⟩
def sep (l : List Ast) : Ast where
 P w S := Hs w S l
 up h hu hd := h.up hu hd
 mo h hs := h.mo hs
 old h := h.old
structure Sp (w0 : World) (S0 : Nat → Prop) (l : List Ast) (w : World) : Prop where
 u : Upd S0 w0 w
 h : Hs w (New w0 S0) l
section
variable {w0 w W w2 : World} {S0 S : Nat → Prop} {l l1 l2 l3 : List Ast} {a : Ast}
theorem Sp.start (h : Hs w S l) : Sp w S l w := ⟨Upd.refl _ _, h.mo (fun _ h => .inl h)⟩
theorem Sp.nil : Sp w S [] w := Sp.start ⟨fun _ => 0, fun k h => absurd rfl h, fun i a h => by simp at h⟩
theorem Sp.to (h : Sp w0 S0 l w) (hu : Upd None0 w W) : Sp w0 S0 l W := ⟨h.u.trans hu (fun _ h => h.elim), h.h.up hu (fun _ _ h => h)⟩
theorem Sp.lt [hl : Lt w W] (h : Sp w0 S0 l w) : Sp w0 S0 l W := h.to (Lt.u hl)
theorem Hs.sel (h : Hs w S l) (ix : List Nat) (hn : ix.Nodup) (he : ix.map (l[·]?) = l2.map some) : Hs w S l2 := by
 obtain ⟨own, h1, h2⟩ := h
 refine ⟨fun k => if own k = 0 then 0 else (ix.idxOf (own k - 1) + 1) % (ix.length + 1), fun k hk => h1 k (fun h0 => hk (if_pos h0)), fun i a ha => ?_⟩
 have hlen : ix.length = l2.length := by have := congrArg List.length he; simpa using this
 have hi : i < l2.length := (List.getElem?_eq_some_iff.1 ha).1
 have hix : i < ix.length := by omega
 have he2 : l[ix[i]]? = some a := by
  have := congrArg (fun q => q[i]?) he
  simp [hix, ha] at this
  exact this
 refine a.mo (h2 _ a he2) (fun k hk => ?_)
 have h3 : ix.idxOf (ix[i]) = i := hn.idxOf_getElem i hix
 show (if own k = 0 then 0 else (ix.idxOf (own k - 1) + 1) % (ix.length + 1)) = i + 1
 rw [if_neg zz7, hk, Nat.add_sub_cancel, h3, Nat.mod_eq_of_lt zz7]
theorem Sp.sel (h : Sp w0 S0 l w) (ix : List Nat) (he : ix.map (l[·]?) = l2.map some := by rfl) (hn : ix.Nodup := by decide) : Sp w0 S0 l2 w := ⟨h.u, h.h.sel ix hn he⟩
theorem Hs.set (h : Hs w S l) (i : Nat) (a b : Ast) (hi : l[i]? = some a) (hf : ∀ T, a.P w T → b.P w T) : Hs w S (l.set i b) := by
 obtain ⟨own, h1, h2⟩ := h
 refine ⟨own, h1, fun j c hc => ?_⟩
 rw [List.getElem?_set] at hc
 split at hc
 ·
  rename_i hij
  subst hij
  split at hc
  ·
   cases hc; exact hf _ (h2 _ a hi)
  ·
   cases hc
 ·
  exact h2 j c hc
theorem Hs.get (h : Hs w S l) (i : Nat) (a : Ast) (hi : l[i]? = some a) : a.P w S := by
 obtain ⟨own, h1, h2⟩ := h
 exact a.mo (h2 i a hi) (fun k hk => h1 k zz7)
theorem Hs.ex0 {α : Type} {f : α → Ast} (h : Hs w S (ex f :: l)) : ∃ x, Hs w S (f x :: l) := by
 obtain ⟨own, h1, h2⟩ := h
 obtain ⟨x, hx⟩ := h2 0 _ rfl
 refine ⟨x, own, h1, fun j c hc => ?_⟩
 cases j with
 | zero => cases hc; exact hx
 | succ j => exact h2 (j + 1) c hc
theorem Hs.exI {α : Type} {f : α → Ast} (x : α) (h : Hs w S (f x :: l)) : Hs w S (ex f :: l) := h.set 0 (f x) (ex f) rfl (fun T hT => ⟨x, hT⟩)
open Classical in
theorem Hs.flat (h : Hs w S (sep l1 :: l)) : Hs w S (l1 ++ l) := by
 obtain ⟨own, h1, h2⟩ := h
 obtain ⟨o2, h3, h4⟩ := h2 0 _ rfl
 refine ⟨fun k => if own k = 0 then 0 else if own k = 1 then (if o2 k ≤ l1.length then o2 k else 0) else own k - 1 + l1.length, fun k hk => h1 k (fun h0 => hk (if_pos h0)), fun i a ha => ?_⟩
 by_cases hi : i < l1.length
 ·
  rw [List.getElem?_append_left hi] at ha
  refine a.mo (h4 i a ha) (fun k hk => ?_)
  have h5 : own k = 1 := h3 k zz7
  show (if own k = 0 then 0 else _) = _
  rw [if_neg zz7, if_pos h5, hk, if_pos zz7]
 ·
  rw [List.getElem?_append_right zz7] at ha
  refine a.mo (h2 (i - l1.length + 1) a (by simpa using ha)) (fun k hk => ?_)
  show (if own k = 0 then 0 else _) = _
  rw [if_neg zz7, if_neg zz7, hk]; omega
theorem Hs.fold (l1 : List Ast) (h : Hs w S (l1 ++ l)) : Hs w S (sep l1 :: l) := by
 obtain ⟨own, h1, h2⟩ := h
 refine ⟨fun k => if own k = 0 then 0 else if own k ≤ l1.length then 1 else own k - l1.length + 1, fun k hk => h1 k (fun h0 => hk (if_pos h0)), fun i a ha => ?_⟩
 cases i with
 | zero =>
   cases ha
   refine ⟨fun k => if own k ≤ l1.length then own k else 0, fun k hk => ?_, fun j b hb => ?_⟩
   ·
    show (if own k = 0 then 0 else _) = _
    dsimp only at hk
    by_cases h5 : own k ≤ l1.length
    ·
     rw [if_pos h5] at hk; rw [if_neg hk, if_pos h5]
    ·
     rw [if_neg h5] at hk; exact absurd rfl hk
   ·
    have hj := (List.getElem?_eq_some_iff.1 hb).1
    refine b.mo (h2 j b (by rw [List.getElem?_append_left hj]; exact hb)) (fun k hk => ?_)
    show (if own k ≤ l1.length then own k else 0) = _
    rw [if_pos zz7, hk]
 | succ i =>
   refine a.mo (h2 (i + l1.length) a (by rw [List.getElem?_append_right zz7]; simpa using ha)) (fun k hk => ?_)
   show (if own k = 0 then 0 else _) = _
   rw [if_neg zz7, if_neg zz7, hk]; omega
theorem Sp.ex0 {α : Type} {f : α → Ast} (h : Sp w0 S0 (ex f :: l) w) : ∃ x, Sp w0 S0 (f x :: l) w := h.h.ex0.elim fun x hx => ⟨x, h.u, hx⟩
theorem Sp.exI {α : Type} {f : α → Ast} (x : α) (h : Sp w0 S0 (f x :: l) w) : Sp w0 S0 (ex f :: l) w := ⟨h.u, h.h.exI x⟩
theorem Sp.flat (h : Sp w0 S0 (sep l1 :: l) w) : Sp w0 S0 (l1 ++ l) w := ⟨h.u, h.h.flat⟩
theorem Sp.fold (l1 : List Ast) (h : Sp w0 S0 (l1 ++ l) w) : Sp w0 S0 (sep l1 :: l) w := ⟨h.u, h.h.fold l1⟩
theorem Sp.turn (h : Sp w0 S0 l w) (i : Nat) (a b : Ast) (hi : l[i]? = some a) (hf : ∀ T, a.P w T → b.P w T) : Sp w0 S0 (l.set i b) w := ⟨h.u, h.h.set i a b hi hf⟩
theorem Sp.swap {b : Ast} (h : Sp w0 S0 (a :: b :: l) w) : Sp w0 S0 (b :: a :: l) w := by
 obtain ⟨u, own, h1, h2⟩ := h
 refine ⟨u, fun k => if own k = 1 then 2 else if own k = 2 then 1 else own k, fun k hk => h1 k (fun e => ?_), fun i c hc => ?_⟩
 ·
  dsimp only at hk
  rw [if_neg zz7, if_neg zz7] at hk; exact hk e
 ·
  match i with
  | 0 => exact c.mo (h2 1 c hc) (fun k hk => by show (if own k = 1 then 2 else if own k = 2 then 1 else own k) = 1; rw [if_neg zz7, if_pos hk])
  | 1 => exact c.mo (h2 0 c hc) (fun k hk => by show (if own k = 1 then 2 else if own k = 2 then 1 else own k) = 2; rw [if_pos hk])
  | i + 2 => exact c.mo (h2 (i + 2) c hc) (fun k hk => by show (if own k = 1 then 2 else if own k = 2 then 1 else own k) = i + 2 + 1; rw [if_neg zz7, if_neg zz7, hk])
noncomputable def Sp.ft (h : Sp w0 S0 l w) (n : Nat) : Nat → Prop := fun k => h.h.choose k ≠ 0 ∧ h.h.choose k ≤ n
theorem Sp.pre [hl : Lt w W] (h : Sp w0 S0 l w) (n : Nat) (he : l.take n = l1 := by rfl) : Hs W (h.ft n) l1 := by
 subst he
 refine (show Hs w (h.ft n) (l.take n) from ?_).up (Lt.u hl) (fun _ _ h => h)
 refine ⟨fun k => if h.h.choose k ≤ n then h.h.choose k else 0, fun k hk => ?_, fun i a ha => ?_⟩
 ·
  dsimp only at hk
  by_cases h5 : h.h.choose k ≤ n
  ·
   rw [if_pos h5] at hk; exact ⟨hk, h5⟩
  ·
   rw [if_neg h5] at hk; exact absurd rfl hk
 ·
  obtain ⟨hi, hv⟩ := List.getElem?_eq_some_iff.1 ha
  rw [List.length_take] at hi
  refine a.mo (h.h.choose_spec.2 i a (by rw [List.getElem?_take, if_pos zz7] at ha; exact ha)) (fun k hk => ?_)
  show (if h.h.choose k ≤ n then h.h.choose k else 0) = _
  rw [hk, if_pos zz7]
open Classical in
theorem Sp.post [hl : Lt w W] (h : Sp w0 S0 l w) (n : Nat) (hq : Sp W (h.ft n) l2 w2) (he : l.drop n = l3 := by rfl) : Sp w0 S0 (l2 ++ l3) w2 := by
 subst he
 have hs := h.h.choose_spec
 have hwW : w.heap.size ≤ W.heap.size := (Lt.u hl).size
 refine ⟨h.u.trans (((Lt.u hl).mono (S' := h.ft n) (fun _ h => h.elim)).trans hq.u (fun k hk => .inl hk)) (fun k hk => hs.1 k hk.1), ?_⟩
 obtain ⟨o2, h1, h2⟩ := hq.h
 refine ⟨fun k => if o2 k ≠ 0 then (if o2 k ≤ l2.length then o2 k else 0) else if n < h.h.choose k ∧ k < w.heap.size then h.h.choose k - n + l2.length else 0, fun k hk => ?_, fun i a ha => ?_⟩
 ·
  dsimp only at hk
  by_cases h5 : o2 k ≠ 0
  ·
   exact (h1 k h5).elim (fun h6 => hs.1 k h6.1) (fun h6 => .inr (Nat.le_trans h.u.size (Nat.le_trans hwW h6)))
  ·
   rw [if_neg h5] at hk
   split at hk
   ·
    rename_i h6; exact hs.1 k zz7
   ·
    exact absurd rfl hk
 ·
  by_cases hi : i < l2.length
  ·
   rw [List.getElem?_append_left hi] at ha
   refine a.mo (h2 i a ha) (fun k hk => ?_)
   show (if o2 k ≠ 0 then _ else _) = _
   rw [if_pos zz7, if_pos zz7, hk]
  ·
   rw [List.getElem?_append_right zz7] at ha
   have h3 := a.old (hs.2 (i - l2.length + n) a (by rw [List.getElem?_drop] at ha; rw [Nat.add_comm]; exact ha))
   have h4 := a.up (a.up h3 (Lt.u hl) (fun _ _ h => h)) hq.u (fun k hk hf => by have := hf.2; have := hk.1; omega)
   refine a.mo h4 (fun k hk => ?_)
   have hk1 := hk.1
   have hk2 := hk.2
   have h5 : ¬ o2 k ≠ 0 := fun h5 => by
    rcases h1 k h5 with h6 | h6
    ·
     have := h6.2; omega
    ·
     omega
   show (if o2 k ≠ 0 then _ else _) = _
   rw [if_neg h5, if_pos zz7, hk1]
   omega
theorem Sp.pre1 [hl : Lt w W] (h : Sp w0 S0 (a :: l) w) : Hs W (h.ft 1) [a] := h.pre 1
theorem Sp.post1 [hl : Lt w W] {b : Ast} (h : Sp w0 S0 (a :: l) w) (hq : Sp W (h.ft 1) [b] w2) : Sp w0 S0 (b :: l) w2 := h.post 1 hq
theorem Sp.post0 [hl : Lt w W] {b : Ast} (h : Sp w0 S0 l w) (hq : Sp W (h.ft 0) [b] w2) : Sp w0 S0 (b :: l) w2 := h.post 0 hq
theorem Sp.un {h : Sp w0 S0 l w} (hq : Sp W (h.ft 0) l2 w2) : Upd None0 W w2 := hq.u.mono (fun k hk => absurd (Nat.le_zero.1 hk.2) hk.1)
theorem Sp.mo {S' : Nat → Prop} (h : Sp w0 S0 l w) (hs : ∀ k, S0 k → S' k) : Sp w0 S' l w := ⟨h.u.mono hs, h.h.mo (New.mono hs)⟩
theorem Sp.toN [hl : Lt w W] (h : Sp w0 S0 l w) (hu : Upd None0 W w2) : Sp w0 S0 l w2 := (h.lt (W := W)).to hu
theorem Sp.blk {g t : Nat} {cs : Array Value} (h : Sp w0 S0 l w) (i : Nat) (hi : l[i]? = some (blk g cs t) := by rfl) : w.heap[g]? = some (.cells cs t (0, 0)) := (h.h.get i _ hi).2
theorem Sp.blkW [hl : Lt w W] {g t : Nat} {cs : Array Value} (h : Sp w0 S0 l w) (i : Nat) (hi : l[i]? = some (Sl.blk g cs t) := by rfl) : W.heap[g]? = some (.cells cs t (0, 0)) := (Lt.u hl).blk (h.blk i hi) (fun h => h)
theorem Sp.row {α : Type} {d : Kd α} {e : Nat} {v : Value} {xs : List α} (h : Sp w0 S0 l w) (i : Nat) (hi : l[i]? = some (row d e v xs) := by rfl) : d.R e w 0 (New w0 S0) v xs := h.h.get i _ hi
theorem Sp.cell {g t : Nat} {cs : Array Value} (h : Sp w0 S0 l w) (i j : Nat) (v : Value) (hi : l[i]? = some (Sl.blk g cs t) := by rfl) (hv : cs[j]? = some v := by rfl) : w.cell? ⟨g, j, none⟩ = some v := (blk_cell (h.blk i hi) j).trans hv
theorem Sp.cells2 {g t : Nat} {a0 a1 : Value} (h : Sp w0 S0 l w) (i : Nat) (hi : l[i]? = some (Sl.blk g #[a0, a1] t) := by rfl) : w.cell? ⟨g, 0, none⟩ = some a0 ∧ w.cell? ⟨g, 1, none⟩ = some a1 := ⟨h.cell i 0 _ hi, h.cell i 1 _ hi⟩
theorem Sp.cells3 {g t : Nat} {a0 a1 a2 : Value} (h : Sp w0 S0 l w) (i : Nat) (hi : l[i]? = some (Sl.blk g #[a0, a1, a2] t) := by rfl) : w.cell? ⟨g, 0, none⟩ = some a0 ∧ w.cell? ⟨g, 1, none⟩ = some a1 ∧ w.cell? ⟨g, 2, none⟩ = some a2 := ⟨h.cell i 0 _ hi, h.cell i 1 _ hi, h.cell i 2 _ hi⟩
theorem Sp.cells4 {g t : Nat} {a0 a1 a2 a3 : Value} (h : Sp w0 S0 l w) (i : Nat) (hi : l[i]? = some (Sl.blk g #[a0, a1, a2, a3] t) := by rfl) : w.cell? ⟨g, 0, none⟩ = some a0 ∧ w.cell? ⟨g, 1, none⟩ = some a1 ∧ w.cell? ⟨g, 2, none⟩ = some a2 ∧ w.cell? ⟨g, 3, none⟩ = some a3 := ⟨h.cell i 0 _ hi, h.cell i 1 _ hi, h.cell i 2 _ hi, h.cell i 3 _ hi⟩
theorem Sp.cells8 {g t : Nat} {a0 a1 a2 a3 a4 a5 a6 a7 : Value} (h : Sp w0 S0 l w) (i : Nat) (hi : l[i]? = some (Sl.blk g #[a0, a1, a2, a3, a4, a5, a6, a7] t) := by rfl) : w.cell? ⟨g, 0, none⟩ = some a0 ∧ w.cell? ⟨g, 1, none⟩ = some a1 ∧ w.cell? ⟨g, 2, none⟩ = some a2 ∧ w.cell? ⟨g, 3, none⟩ = some a3 ∧ w.cell? ⟨g, 4, none⟩ = some a4 ∧ w.cell? ⟨g, 5, none⟩ = some a5 ∧ w.cell? ⟨g, 6, none⟩ = some a6 ∧ w.cell? ⟨g, 7, none⟩ = some a7 := ⟨h.cell i 0 _ hi, h.cell i 1 _ hi, h.cell i 2 _ hi, h.cell i 3 _ hi, h.cell i 4 _ hi, h.cell i 5 _ hi, h.cell i 6 _ hi, h.cell i 7 _ hi⟩
theorem Sp.cellW [hl : Lt w W] {g t : Nat} {cs : Array Value} (h : Sp w0 S0 l w) (i j : Nat) (v : Value) (hi : l[i]? = some (Sl.blk g cs t)) (hv : cs[j]? = some v) : W.cell? ⟨g, j, none⟩ = some v := (blk_cell (h.blkW i hi) j).trans hv
theorem Sp.put_ {g t : Nat} {cs cs' : Array Value} (h : Sp w0 S0 l w) (i : Nat) (hi : l[i]? = some (Sl.blk g cs t)) (hu : Upd (fun k => k = g) w W) (hb : W.heap[g]? = some (.cells cs' t (0, 0))) : Sp w0 S0 (l.set i (Sl.blk g cs' t)) W := by
 obtain ⟨u, own, h1, h2⟩ := h
 have hg := (h2 i _ hi).1
 refine ⟨u.trans hu (fun k hk => ?_), own, h1, fun j a ha => ?_⟩
 ·
  rw [hk]; exact h1 g (by show own g ≠ 0; have : own g = i + 1 := hg; omega)
 ·
  rw [List.getElem?_set] at ha
  split at ha
  ·
   rename_i hij
   subst hij
   split at ha
   ·
    cases ha; exact ⟨hg, hb⟩
   ·
    cases ha
  ·
   rename_i hij
   refine a.up (h2 j a ha) hu (fun k hk e => hij ?_)
   have e : k = g := e
   subst e
   have h6 : own k = i + 1 := hg
   have h7 : own k = j + 1 := hk
   omega
theorem Sp.rset {α : Type} {enc : α → Value} {h1 : ∀ x, (enc x).oneCell' = true} {e g n c : Nat} {xs : List α} (h : Sp w0 S0 l w) (i : Nat) (hi : l[i]? = some (Sl.row (Kd.scalar enc h1) e (.slice (some ⟨g, 0, none⟩) n c) xs)) (hn : n = xs.length) (j : Nat) (x : α) :
 Sp w0 S0 (l.set i (Sl.row (Kd.scalar enc h1) e (.slice (some ⟨g, 0, none⟩) n c) (xs.set j x))) (w.setCell ⟨g, j, none⟩ (enc x)) := by
 subst hn
 obtain ⟨u, own, h2, h3⟩ := h
 have hR : (Kd.scalar enc h1).R e w 0 (fun k => own k = i + 1) (.slice (some ⟨g, 0, none⟩) xs.length c) xs := h3 i _ hi
 have hp := Kd.R_put hR (j : Int) x
 rw [Int.toNat_natCast] at hp
 have hg : own g = i + 1 := hR.1 g rfl
 have hu : Upd (fun k => k = g) w (w.setCell ⟨g, j, none⟩ (enc x)) := Upd.grown hp.2 (fun k hk => by cases hk; rfl)
 refine ⟨u.trans hu (fun k hk => ?_), own, h2, fun m a ha => ?_⟩
 ·
  rw [hk]; exact h2 g zz7
 ·
  rw [List.getElem?_set] at ha
  split at ha
  ·
   rename_i hij
   subst hij
   split at ha
   ·
    cases ha; exact hp.1
   ·
    cases ha
  ·
   rename_i hij
   refine a.up (h3 m a ha) hu (fun k hk e => hij ?_)
   have e : k = g := e
   subst e
   have h7 : own k = m + 1 := hk
   omega
open Classical in
theorem Sp.more (h : Sp w0 S0 l w) (hu : Upd None0 w W) (ha : a.P W (fun k => w.heap.size ≤ k)) : Sp w0 S0 (a :: l) W := by
 obtain ⟨u, own, h1, h2⟩ := h
 refine ⟨u.trans hu (fun _ h => h.elim), fun k => if w.heap.size ≤ k then 1 else if own k = 0 then 0 else own k + 1, fun k hk => ?_, fun j b hb => ?_⟩
 ·
  dsimp only at hk
  by_cases h5 : w.heap.size ≤ k
  ·
   exact .inr (Nat.le_trans u.size h5)
  ·
   rw [if_neg h5] at hk
   exact h1 k (fun e => by rw [if_pos e] at hk; exact hk rfl)
 ·
  cases j with
  | zero => cases hb; exact a.mo ha (fun k hk => if_pos hk)
  | succ j =>
    refine b.mo (b.up (b.old (h2 j b hb)) hu (fun _ _ h => h)) (fun k hk => ?_)
    have hk1 : own k = j + 1 := hk.1
    have hk2 := hk.2
    show (if w.heap.size ≤ k then 1 else if own k = 0 then 0 else own k + 1) = _
    rw [if_neg zz7, if_neg zz7, hk1]
theorem Sp.nilrow {α : Type} (d : Kd α) (e : Nat) (h : Sp w0 S0 l w) : Sp w0 S0 (Sl.row d e (.slice none 0 0) [] :: l) w := h.more (Upd.refl _ _) (Kd.R_nil _ _ _ _ _)
theorem Sp.opn (h : Sp w0 S0 l w) (i : Nat) (a : Ast) (hi : l[i]? = some a) : ∃ T : Nat → Prop, a.P w T ∧ ∀ (W : World) (b : Ast) (T' : Nat → Prop), (∀ k, T' k → T k) → Upd T' w W → b.P W (New w T) → Sp w0 S0 (l.set i b) W := by
 obtain ⟨u, own, h1, h2⟩ := h
 have hil := (List.getElem?_eq_some_iff.1 hi).1
 refine ⟨_, h2 i a hi, fun W b T' hT hu hb => ⟨u.trans hu (fun k hk => h1 k (by have := hT k hk; omega)), fun k => if w.heap.size ≤ k then i + 1 else own k, fun k hk => ?_, fun j c hc => ?_⟩⟩
 ·
  dsimp only at hk
  by_cases h5 : w.heap.size ≤ k
  ·
   exact .inr (Nat.le_trans u.size h5)
  ·
   rw [if_neg h5] at hk; exact h1 k hk
 ·
  rw [List.getElem?_set] at hc
  split at hc
  ·
   rename_i hij
   subst hij
   cases hc
   refine b.mo hb (fun k hk => ?_)
   show (if w.heap.size ≤ k then i + 1 else own k) = i + 1
   by_cases h5 : w.heap.size ≤ k
   ·
    rw [if_pos h5]
   ·
    rw [if_neg h5]; exact hk.elim id (fun h => absurd h h5)
  ·
   rename_i hij
   refine c.mo (c.up (c.old (h2 j c hc)) hu (fun k hk e => hij ?_)) (fun k hk => ?_)
   ·
    have h6 := hT k e; have h7 := hk.1; omega
   ·
    show (if w.heap.size ≤ k then i + 1 else own k) = j + 1
    rw [if_neg (by have := hk.2; omega)]; exact hk.1
end
theorem cl_ {α : Type} {d : Kd α} {w W : World} {A : Option Addr} {n : Nat} {xs : List α} [Lt w W] (h : Aside0 (d.C w A n xs)) : d.C W A n xs := Kd.C_below h.out (lu : Upd None0 w W).below0
theorem Sp.reads {α : Type} {d : Kd α} {e : Nat} {w0 w : World} {S0 : Nat → Prop} {l : List Ast} {A : Option Addr} {n c : Nat} {xs : List α} (h : Sp w0 S0 l w) (i : Nat) (hi : l[i]? = some (Sl.row d e (.slice A n c) xs) := by rfl) : d.C w A n xs := by
 have h2 := Kd.R_reads' (h.row i hi)
 rw [h2.1]
 exact h2.2.2
theorem cup {α : Type} {d : Kd α} {w W W2 : World} {A : Option Addr} {n : Nat} {xs : List α} [hl : Lt w W] (h : Aside0 (d.C w A n xs)) (hu : Upd None0 W W2) : Aside0 (d.C W2 A n xs) := ⟨Kd.C_below (Kd.C_below h.out (lu : Upd None0 w W).below0) hu.below0⟩
def QK (K : Act → World → Prop) : Exit → Act → World → Prop
 | .normal, a, w => K a w
 | _, _, _ => False
theorem qk_out {K : Act → World → Prop} (h : LetsOut (QK K)) : False := by obtain ⟨_, _, h⟩ := h; exact h
theorem oper_q {P : Program} {o : Oper} {a : Act} {w : World} {K : Act → World → Prop} {Q : Exit → Act → World → Prop} (hh : o.wp P a w K (QK K)) : o.wp P a w K Q := by
 unfold Oper.wp at *
 generalize (execOp a.eval o).run P w = r at *
 cases r with
 | ok n w' =>
   cases n <;> simp only [Oper.upon] at hh ⊢ <;>
    first
     | exact hh
     | exact Calls.mono hh (fun e w'' he => by cases e <;> first | exact he | exact (qk_out he).elim | exact False.elim he)
 | halt x w' => cases x <;> simp only [Oper.upon] at hh ⊢ <;> first | exact hh | exact (qk_out hh).elim | exact False.elim hh
theorem step_list {P : Program} {ops : Array Oper} {o : Oper} {a : Act} {W : World} {K : Act → World → Prop} {Q : Exit → Act → World → Prop} (h : wpList P ops (QK K) [o] a W) :
 if Region.wanted o (yielded ops a.tmps) = true then Oper.wp P o a W K Q else K (a.put o.dst undef) W := by
 unfold wpList at h
 split
 ·
  rename_i hw
  rw [if_pos hw] at h
  exact h.elim oper_q (fun h => (qk_out h.2).elim)
 ·
  rename_i hw
  rw [if_neg hw] at h
  exact h
theorem list_K {P : Program} {ops : Array Oper} {a : Act} {w : World} {K : Act → World → Prop} (h : K a w) : wpList P ops (QK K) [] a w := h
theorem qleft {P : Program} {f : FuncId} {args : Array Value} {w : World} {n : Nat} {v : Value} (h : Calls P f args (w.drewN n) fun e w' => e = .returned v ∧ w.drewN n = w') : Calls P f args (w.drewN n) fun e w'' => e = .returned v ∧ ∃ m, w'' = w.drewN m :=
 h.mono fun _ _ ⟨he, hm⟩ => ⟨he, n, hm.symm⟩
section
variable {P : Program} {ops : Array Oper} {rest : List Oper} {o : Oper} {a : Act} {Q : Exit → Act → World → Prop} {w0 w W : World} {S0 : Nat → Prop} {l l2 : List Ast}
theorem sp_cell [Lt w W] (h : Sp w0 S0 l w) (i : Nat) (hgd : o.guard = none) (ty : TypeId) (x y : Operand) (ho : o.op = .store ty x y) (hd : o.dst = none) (g j : Nat) (v : Value) (hx : a.eval x = .pointer (some ⟨g, j, none⟩)) (hy : a.eval y = v)
 (t : TypeId) (old new : Array Value) (hi : l[i]? = some (blk g old t)) (hs : (P.info? ty).map (·.size) = some 1) (hlt : j < old.size) (h1 : v.oneCell' = true) (hn : old.setIfInBounds j v = new) (hl : l.set i (blk g new t) = l2)
 (hk : ∀ w', Sp w0 S0 l2 w' → wpList P ops Q rest a w') : wpList P ops Q (o :: rest) a W := by
 subst hl
 exact cellput hgd ty x y ho hd g j v hx hy t old new (h.blkW i hi) hs hlt h1 hn (fun w' hb hu => hk w' ((h.lt (W := W)).put_ i hi hu hb))
theorem sp_row [Lt w W] (h : Sp w0 S0 l w) (i : Nat) (hgd : o.guard = none) (ty : TypeId) (x y : Operand) (ho : o.op = .store ty x y) (hd : o.dst = none) (g : Nat) (new : Array Value) (hx : a.eval x = .pointer (some ⟨g, 0, none⟩)) (hy : a.eval y = .agg new)
 (t : TypeId) (old : Array Value) (hi : l[i]? = some (blk g old t)) (hs : (P.info? ty).map (·.size) = some new.size) (hold : old.size = new.size) (h1 : new.all (·.oneCell') = true) (hl : l.set i (blk g new t) = l2)
 (hk : ∀ w', Sp w0 S0 l2 w' → wpList P ops Q rest a w') : wpList P ops Q (o :: rest) a W := by
 subst hl
 exact rowput hgd ty x y ho hd g new hx hy t old (h.blkW i hi) hs hold h1 (fun w' hb hu => hk w' ((h.lt (W := W)).put_ i hi hu hb))
theorem sp_box [Lt w W] (h : Sp w0 S0 l w) (hgd : o.guard = none) {N : Tmp} (hd : o.dst = some N) (cs : Array Value) (t : TypeId)
 (hrun : (execOp a.eval o).run P W = .ok (.value (.pointer (some ⟨W.heap.size, 0, none⟩))) (W.alloc (.cells cs t (0, 0))))
 (hk : ∀ g w1, w.heap.size ≤ g → Sp w0 S0 (blk g cs t :: l) w1 → wpList P ops Q rest (a.put o.dst (.pointer (some ⟨g, 0, none⟩))) w1) : wpList P ops Q (o :: rest) a W :=
 boxnew hgd hd hrun (fun g hge w1 hb hu => hk g w1 (Nat.le_trans (lu : Upd None0 w W).size hge) ((h.lt (W := W)).more hu ⟨hge, hb⟩))
theorem sp_lit {α : Type} (d : Kd α) [Lt w W] (h : Sp w0 S0 l w) (e : Nat) (hgd : o.guard = none) {N : Tmp} (hd : o.dst = some N) (xs : List α) (inner : List Value)
 (hrun : (execOp a.eval o).run P W = .ok (.value (.slice (some ⟨W.heap.size, 0, none⟩) xs.length xs.length)) (W.alloc (.cells inner.toArray e)))
 (hrep : Reps (d.M W 0 (fun _ => False)) d.sz xs inner) (hm : xs.length ≤ 9223372036854775807)
 (hk : ∀ A c w1, Sp w0 S0 (row d e (.slice A xs.length c) xs :: l) w1 → wpList P ops Q rest (a.put o.dst (.slice A xs.length c)) w1) : wpList P ops Q (o :: rest) a W :=
 row_lit d e hgd hd hrun hrep hm (fun v1 w1 hr hu => by
  obtain ⟨A, c, rfl⟩ := Kd.R_slice hr
  exact hk A c w1 ((h.lt (W := W)).more hu (row_mono hr (fun k h => h.elim (fun h => h.elim) id))))
theorem sp_app {α : Type} (d : Kd α) [Lt w W] (h : Sp w0 S0 l w) (i : Nat) (hgd : o.guard = none) (s x : Operand) (t e : TypeId) (z : Value) (bytes : Nat)
 (ho : o.op = .call { callee := .builtin .append, args := #[s, x], argTypes := #[t, t] })
 (ht : P.underlying t = some (.slice e)) (hinfo : (P.info? e).map (fun i => (i.zero, i.size, i.bytes)) = some (some z, d.sz, bytes)) (hz : z.cells.size = d.sz) (hs0 : 0 < d.sz) (hb0 : 0 < bytes)
 (v : Value) (xs : List α) (p : α) (cs : List Value) (hs : a.eval s = v) (hx : a.eval x = .slice (some ⟨W.heap.size, 0, none⟩) 1 1) (hp : d.M W 0 (fun _ => False) p cs)
 (hi : l[i]? = some (row d e v xs)) (hl : (xs.length + 1) * bytes ≤ 140737488355328) (ys : List α) (hy : xs ++ [p] = ys) (l2 : Option Addr → Nat → List Ast) (hl2 : ∀ A c, l.set i (row d e (.slice A ys.length c) ys) = l2 A c)
 (hk : ∀ A c w1, Sp w0 S0 (l2 A c) w1 → wpList P ops Q rest (a.put o.dst (.slice A ys.length c)) w1) :
 wpList P ops Q (o :: rest) a (W.alloc (.cells cs.toArray e)) := by
 obtain ⟨T, hT, hw⟩ := (h.lt (W := W)).opn i _ hi
 refine row_append d hgd s x t e z bytes ho ht hinfo hz hs0 hb0 v xs p cs hs hx hp hT hl ys hy (fun v1 w1 hr hu => ?_)
 obtain ⟨A, c, rfl⟩ := Kd.R_slice hr
 refine hk A c w1 ?_
 rw [← hl2]
 exact hw w1 _ _ (fun k hk => row_at hT hk) hu hr
theorem sp_apps {α : Type} (d : Kd α) [Lt w W] (h : Sp w0 S0 l w) (i : Nat) (hgd : o.guard = none) (s x : Operand) (t e : TypeId) (z : Value) (bytes : Nat)
 (ho : o.op = .call { callee := .builtin .append, args := #[s, x], argTypes := #[t, t] })
 (ht : P.underlying t = some (.slice e)) (hinfo : (P.info? e).map (fun i => (i.zero, i.size, i.bytes)) = some (some z, d.sz, bytes)) (hz : z.cells.size = d.sz) (hs0 : 0 < d.sz) (hb0 : 0 < bytes)
 (v : Value) (xs ys : List α) (A : Option Addr) (m c : Nat) (hs : a.eval s = v) (hx : a.eval x = .slice A m c)
 (hi : l[i]? = some (row d e v xs)) (HR : d.C W A m ys) (hKM : ∀ x cs, d.K W x cs → d.M W 0 (fun _ => False) x cs) (hl : (xs.length + m) * bytes ≤ 140737488355328) (zs : List α) (hy : xs ++ ys = zs) (l2 : Option Addr → Nat → List Ast) (hl2 : ∀ A c, l.set i (row d e (.slice A zs.length c) zs) = l2 A c)
 (hk : ∀ A c w1, Sp w0 S0 (l2 A c) w1 → wpList P ops Q rest (a.put o.dst (.slice A zs.length c)) w1) :
 wpList P ops Q (o :: rest) a W := by
 obtain ⟨T, hT, hw⟩ := (h.lt (W := W)).opn i _ hi
 refine row_append_rows d hgd s x t e z bytes ho ht hinfo hz hs0 hb0 v xs ys A m c hs hx hT HR hKM hl zs hy (fun v1 w1 hr hu => ?_)
 obtain ⟨A, c, rfl⟩ := Kd.R_slice hr
 refine hk A c w1 ?_
 rw [← hl2]
 exact hw w1 _ _ (fun k hk => row_at hT hk) hu hr
end
end Go.Proofs.Ytgddaddoabjgiaa.Sl
namespace Go.Proofs.Ytgddaddoabjgiaa.Bs
open RowKit YtgddaddoabjgiaaW.PrintWords YtgddaddoabjgiaaW.PrintLast YtgddaddoabjgiaaW.PrintMore
set_option linter.unusedVariables false
def Bytes (l : List Int) : Prop := ∀ b, b ∈ l → 0 ≤ b ∧ b < 256
theorem w64 {x : Int} (h0 : -9223372036854775808 ≤ x) (h1 : x ≤ 9223372036854775807) : wrap64 x = x := by unfold wrap64; omega
theorem bytes_of (s : ByteArray) : Bytes (bytesOf s) := by
  intro b hb
  simp only [bytesOf, List.mem_map] at hb
  obtain ⟨u, _, rfl⟩ := hb
  have := u.toNat_lt
  omega
theorem bytesOf_nums (l : List Int) (h : Bytes l) : bytesOf (strOfNums l) = l := by
  unfold bytesOf
  rw [strOfNums_data, List.map_map]
  conv => rhs; rw [← List.map_id l]
  apply List.map_congr_left
  intro x hx
  have := h x hx
  simp only [Function.comp, id]
  rw [UInt8.toNat_ofNat_of_lt' (by have : x.toNat < 256 := by omega
                                   simpa [UInt8.size] using this)]
  omega
theorem bytesOf_append (a b : ByteArray) : bytesOf (a ++ b) = bytesOf a ++ bytesOf b := by
  simp [bytesOf, ByteArray.data_append]
theorem bytesOf_inj {a b : ByteArray} (h : bytesOf a = bytesOf b) : a = b := by
  have h' : a.data.toList = b.data.toList := by
    unfold bytesOf at h
    refine List.map_inj_right (fun x y hxy => ?_) |>.1 h
    have : x.toNat = y.toNat := by omega
    exact UInt8.toNat_inj.1 this
  exact ByteArray.ext (Array.ext' h')
theorem nums_bytesOf (s : ByteArray) : strOfNums (bytesOf s) = s := bytesOf_inj (bytesOf_nums _ (bytes_of s))
theorem toList_beq (a b : ByteArray) : (a.toList == b.toList) = (bytesOf a == bytesOf b) := by
  rw [Bool.eq_iff_iff, beq_iff_eq, beq_iff_eq, Lib.toList_data, Lib.toList_data]
  constructor
  · intro h; simp [bytesOf, h]
  · intro h; rw [bytesOf_inj h]
theorem drop_at (s : ByteArray) (i : Int) (h0 : 0 ≤ i) (h1 : i < s.size) : (bytesOf s).drop i.toNat = bt s i :: (bytesOf s).drop (i + 1).toNat := by
  have hl : i.toNat < (bytesOf s).length := by rw [bytesOf_length]; omega
  rw [List.drop_eq_getElem_cons hl, show (i + 1).toNat = i.toNat + 1 by omega, ← rd_bytesOf, rd, List.getD_eq_getElem?_getD, List.getElem?_eq_getElem hl]
  rfl
theorem bt_get (s : ByteArray) (i : Int) : bt s i = (bytesOf s).getD i.toNat 0 := by rw [← rd_bytesOf]; rfl
theorem bytesOf_size (s : ByteArray) : (s.size : Int) = ((bytesOf s).length : Int) := by rw [bytesOf_length]
end Go.Proofs.Ytgddaddoabjgiaa.Bs

namespace Go.Proofs.Ytgddaddoabjgiaa.Idm
def cb (c : Bool) : Int := if c then 1 else 0
def grp (t : Int) : List Int :=
 if t < 128 then [t]
 else if t < 16384 then [128 + t / 128, t % 128]
 else if t < 2097152 then [128 + t / 128 / 128, 128 + t / 128 % 128, t % 128]
 else [128 + t / 128 / 128 / 128, 128 + t / 128 / 128 % 128, 128 + t / 128 % 128, t % 128]
def enc (cls tag : Int) (cons : Bool) : List Int :=
 if tag < 31 then [64 * cls + 32 * cb cons + tag] else (64 * cls + 32 * cb cons + 31) :: grp tag
def gT (t : Int) (n : Nat) (first : Bool) : List Int → Nat × Int × Int
 | [] => (n, 0, 2)
 | b :: r =>
   if (first && b == 128) = true then (n, 0, 3)
   else if 128 * t + b % 128 > 268435455 then (n, 0, 3)
   else if b ≥ 128 then gT (128 * t + b % 128) (n + 1) false r
   else if 128 * t + b % 128 < 31 then (n, 0, 3)
   else (n + 1, 128 * t + b % 128, 0)
def idg : List Int → Int × Int × Bool × Nat × Int
 | [] => (0, 0, false, 0, 2)
 | b :: r =>
   if b % 32 < 31 then (b / 64, b % 32, (b / 32 % 2 == 1), 1, 0)
   else if (gT 0 1 true r).2.2 = 0 then (b / 64, (gT 0 1 true r).2.1, (b / 32 % 2 == 1), (gT 0 1 true r).1, 0)
   else (0, 0, false, (gT 0 1 true r).1, (gT 0 1 true r).2.2)
def Bytes (l : List Int) : Prop := ∀ b, b ∈ l → 0 ≤ b ∧ b < 256
def Valid (cls tag : Int) : Prop := 0 ≤ cls ∧ cls ≤ 3 ∧ 0 ≤ tag ∧ tag ≤ 268435455
theorem cb_range (c : Bool) : 0 ≤ cb c ∧ cb c ≤ 1 := by cases c <;> simp [cb]
theorem cb_beq (c : Bool) (x : Int) (h : x = cb c) : (x == 1) = c := by subst h; cases c <;> rfl
theorem grp_len (t : Int) : 1 ≤ (grp t).length ∧ (grp t).length ≤ 4 := by
 unfold grp
 split
 ·
  simp
 split
 ·
  simp
 split <;> simp
theorem enc_len (cls tag : Int) (cons : Bool) : 1 ≤ (enc cls tag cons).length ∧ (enc cls tag cons).length ≤ 5 := by
 unfold enc
 split
 ·
  simp
 ·
  have := grp_len tag
  simp; omega
theorem enc_bytes {cls tag : Int} {cons : Bool} (h : Valid cls tag) : Bytes (enc cls tag cons) := by
 obtain ⟨h1, h2, h3, h4⟩ := h
 have hc := cb_range cons
 unfold enc Bytes
 split
 ·
  simp; omega
 ·
  unfold grp
  split
  ·
   simp; omega
  split
  ·
   simp; omega
  split
  ·
   simp; omega
  ·
   simp; omega
theorem gT_cons (t : Int) (n : Nat) (f : Bool) (b : Int) (r : List Int) : gT t n f (b :: r) =
 if (f && b == 128) = true then (n, 0, 3)
 else if 128 * t + b % 128 > 268435455 then (n, 0, 3)
 else if b ≥ 128 then gT (128 * t + b % 128) (n + 1) false r
 else if 128 * t + b % 128 < 31 then (n, 0, 3)
 else (n + 1, 128 * t + b % 128, 0) := rfl
theorem gT_more (t x : Int) (n : Nat) (f : Bool) (r : List Int) (h0 : 0 ≤ x) (h1 : x < 128) (hf : f = true → 0 < x) (hm : 128 * t + x ≤ 268435455) :
 gT t n f ((128 + x) :: r) = gT (128 * t + x) (n + 1) false r := by
 rw [gT_cons, if_neg, if_neg zz7, if_pos zz7, show (128 + x) % 128 = x by omega]
 cases f
 ·
  simp
 ·
  have := hf rfl
  simp; omega
theorem gT_on (t x : Int) (n : Nat) (r : List Int) (h0 : 0 ≤ x) (h1 : x < 128) (hm : 128 * t + x ≤ 268435455) :
 gT t n false ((128 + x) :: r) = gT (128 * t + x) (n + 1) false r := gT_more t x n false r h0 h1 zz43 hm
theorem gT_last (t x : Int) (n : Nat) (f : Bool) (r : List Int) (h0 : 0 ≤ x) (h1 : x < 128) (hm : 128 * t + x ≤ 268435455) (hl : 31 ≤ 128 * t + x) :
 gT t n f (x :: r) = (n + 1, 128 * t + x, 0) := by
 rw [gT_cons, if_neg (by cases f <;> simp; omega), if_neg zz7, if_neg zz7, if_neg zz7, show x % 128 = x by omega]
theorem gT_grp (t : Int) (h : 31 ≤ t) (hm : t ≤ 268435455) (r : List Int) : gT 0 1 true (grp t ++ r) = ((grp t).length + 1, t, 0) := by
 unfold grp
 split
 ·
  rw [List.cons_append, gT_last _ _ _ _ _ zz7 zz7 zz7 zz7]
  simp
 split
 ·
  rw [List.cons_append, gT_more _ _ _ _ _ zz7 zz7 zz7 zz7, List.cons_append,
   gT_last _ _ _ _ _ zz7 zz7 zz7 zz7]
  simp; omega
 split
 ·
  rw [List.cons_append, gT_more _ _ _ _ _ zz7 zz7 zz7 zz7, List.cons_append,
   gT_on _ _ _ _ zz7 zz7 zz7, List.cons_append,
   gT_last _ _ _ _ _ zz7 zz7 zz7 zz7]
  simp; omega
 ·
  rw [List.cons_append, gT_more _ _ _ _ _ zz7 zz7 zz7 zz7, List.cons_append,
   gT_on _ _ _ _ zz7 zz7 zz7, List.cons_append,
   gT_on _ _ _ _ zz7 zz7 zz7, List.cons_append,
   gT_last _ _ _ _ _ zz7 zz7 zz7 zz7]
  simp; omega
theorem idg_enc {cls tag : Int} (cons : Bool) (h : Valid cls tag) (r : List Int) :
 idg (enc cls tag cons ++ r) = (cls, tag, cons, (enc cls tag cons).length, 0) := by
 obtain ⟨h1, h2, h3, h4⟩ := h
 have hc := cb_range cons
 unfold enc
 split
 ·
  rw [List.cons_append]
  simp only [idg]
  rw [if_pos zz7, cb_beq cons _ zz7, show (64 * cls + 32 * cb cons + tag) / 64 = cls by omega, show (64 * cls + 32 * cb cons + tag) % 32 = tag by omega]
  simp
 ·
  rw [List.cons_append]
  simp only [idg]
  rw [if_neg zz7, gT_grp tag zz7 h4, if_pos rfl, cb_beq cons _ zz7, show (64 * cls + 32 * cb cons + 31) / 64 = cls by omega]
  simp
end Go.Proofs.Ytgddaddoabjgiaa.Idm
namespace Go.Proofs
open Go.Shelf
def Try.lays156_ren : Go.Shelf.Ren := ⟨fun | 156 => 46 | 165 => 68 | 166 => 69 | 169 => 70 | 240 => 83 | 241 => 84 | 276 => 93 | 277 => 94 | n => n, fun | 31 => 60 | 9 => 9 | 3 => 3 | 4 => 4 | 0 => 0 | 20 => 20 | 72 => 98 | 76 => 102 | 70 => 96 | 37 => 76 | 75 => 101 | 127 => 118 | 164 => 132 | 5 => 5 | 80 => 104 | n => n, fun | n => n⟩
theorem Try.lays156 : Go.Proofs.Lays.n156 Try.prog Try.lays156_ren := {
 mixed := by kernel_rfl
 f156 := Try.func46.trans (congrArg some zz4)
 f165 := Try.func68.trans (congrArg some zz4)
 f166 := Try.func69.trans (congrArg some zz4)
 f169 := Try.func70.trans (congrArg some zz4)
 f240 := Try.func83.trans (congrArg some zz4)
 f241 := Try.func84.trans (congrArg some zz4)
 f276 := Try.func93.trans (congrArg some zz4)
 f277 := Try.func94.trans (congrArg some zz4)
 t0 := Try.underlying0
 a0 := Try.isAgg0
 z0 := Try.sizeOf0
 v0 := Try.zeroValue0
 t3 := Try.underlying3
 a3 := Try.isAgg3
 z3 := Try.sizeOf3
 v3 := Try.zeroValue3
 t4 := Try.underlying4
 a4 := Try.isAgg4
 z4 := Try.sizeOf4
 v4 := Try.zeroValue4
 t9 := Try.underlying9
 a9 := Try.isAgg9
 z9 := Try.sizeOf9
 v9 := Try.zeroValue9
 t20 := Try.underlying20
 a20 := Try.isAgg20
 z20 := Try.sizeOf20
 v20 := Try.zeroValue20
 t31 := Try.underlying60
 a31 := Try.isAgg60
 z31 := Try.sizeOf60
 v31 := Try.zeroValue60
 t37 := Try.underlying76
 a37 := Try.isAgg76
 z37 := Try.sizeOf76
 v37 := Try.zeroValue76
 t70 := Try.underlying96
 a70 := Try.isAgg96
 z70 := Try.sizeOf96
 v70 := Try.zeroValue96
 t72 := Try.underlying98
 a72 := Try.isAgg98
 z72 := Try.sizeOf98
 v72 := Try.zeroValue98
 t75 := Try.underlying101
 a75 := Try.isAgg101
 z75 := Try.sizeOf101
 v75 := Try.zeroValue101
 t76 := Try.underlying102
 a76 := Try.isAgg102
 z76 := Try.sizeOf102
 v76 := Try.zeroValue102
 t127 := Try.underlying118
 a127 := Try.isAgg118
 z127 := Try.sizeOf118
 v127 := Try.zeroValue118
 t164 := Try.underlying132
 a164 := Try.isAgg132
 z164 := Try.sizeOf132
 v164 := Try.zeroValue132 }
theorem Try.Builder_Extra_156 : Builder.Extra Try.prog Try.lays156_ren := {
 sizeBuilder := by kernel_rfl
 liesBuilder := by kernel_rfl
 t5 := Try.underlying5
 a5 := Try.isAgg5
 z5 := Try.sizeOf5
 v5 := Try.zeroValue5
 infoByte := by kernel_rfl
 cellsByte := by kernel_rfl
 sizeByte := by kernel_rfl
 neB5 := by decide }
open Go.RowKit in
theorem Try.strings_Join_none (a : Option Addr) (c : Nat) (sep : ByteArray) (w : World) :
 Calls Try.prog 46 #[.slice a 0 c, .string sep] w fun e w' => e = .returned (.string ⟨#[]⟩) ∧ w' = w := Any.strings_Join_none Try.lays156 Try.Builder_Extra_156 a c sep w
open Go.RowKit in
theorem Try.strings_Join (bk o c : Nat) (xs : List ByteArray) (sep : ByteArray) (w : World) (hcells : ∀ (j : Nat) x, xs[j]? = some x → w.cell? ⟨bk, o + j, none⟩ = some (.string x)) (hbk : bk < w.heap.size) (hN : xs.length ≤ 140737488355328) (hcap : xs.length ≤ c) (hlen : (Lib.join (xs.map (·.data.toList)) sep.data.toList).length ≤ 140737488355328) :
 Calls Try.prog 46 #[.slice (some ⟨bk, o, none⟩) xs.length c, .string sep] w fun e w' => e = .returned (.string ⟨(Lib.join (xs.map (·.data.toList)) sep.data.toList).toArray⟩) ∧ Below w.heap.size w w' := Any.strings_Join Try.lays156 Try.Builder_Extra_156 bk o c xs sep w hcells hbk hN hcap hlen
def Try.lays137_ren : Go.Shelf.Ren := ⟨fun | 137 => 90 | 217 => 98 | 266 => 102 | n => n, fun | 9 => 9 | 5 => 5 | 3 => 3 | n => n, fun | n => n⟩
theorem Try.lays137 : Go.Proofs.Lays.n137 Try.prog Try.lays137_ren := {
 mixed := by kernel_rfl
 f137 := Try.func90.trans (congrArg some zz4)
 f217 := Try.func98.trans (congrArg some zz4)
 f266 := Try.func102.trans (congrArg some zz4)
 t3 := Try.underlying3
 a3 := Try.isAgg3
 z3 := Try.sizeOf3
 v3 := Try.zeroValue3
 t5 := Try.underlying5
 a5 := Try.isAgg5
 z5 := Try.sizeOf5
 v5 := Try.zeroValue5
 t9 := Try.underlying9
 a9 := Try.isAgg9
 z9 := Try.sizeOf9
 v9 := Try.zeroValue9 }
open Go.RowKit in
theorem Try.strings_IndexByte (s : ByteArray) (c : Int) (w : World) :
 Calls Try.prog 90 #[.string s, .int .u8 c] w fun e w' => e = .returned (.int .i64 (Lib.indexByte s.data.toList c.toNat.toUInt8)) ∧ w' = w := Any.strings_IndexByte Try.lays137 s c w
def Try.laysNm216_ren : Go.Shelf.Ren := ⟨fun | 16 => 54 | n => n, fun | 24 => 60 | 9 => 9 | 4 => 4 | n => n, fun | n => n⟩
theorem Try.laysNm216 : Go.Proofs.Lays2.n16 Try.prog Try.laysNm216_ren := {
 mixed := by kernel_rfl
 f16 := Try.func54.trans (congrArg some zz4)
 t4 := Try.underlying4
 a4 := Try.isAgg4
 z4 := Try.sizeOf4
 v4 := Try.zeroValue4
 t9 := Try.underlying9
 a9 := Try.isAgg9
 z9 := Try.sizeOf9
 v9 := Try.zeroValue9
 t24 := Try.underlying60
 a24 := Try.isAgg60
 z24 := Try.sizeOf60
 v24 := Try.zeroValue60
 i9 := by kernel_rfl }
open Go.RowKit Go.Lib in
theorem Try.slices_Clone_string (b off n c : Nat) (zs : List ByteArray) (w : World) (hz : n ≤ zs.length) (hbig : n * 16 ≤ 140737488355328) (hc : ∀ j, j < zs.length → w.cell? ⟨b, off + j, none⟩ = some (.string (zs.getD j ByteArray.empty))) :
 Calls Try.prog 54 #[.slice (some ⟨b, off, none⟩) n c] w fun e w' => ∃ v', e = .returned v' ∧ w'.ownsRow w.heap.size 9 1 v' n ((zs.take n).map (Value.string)) ∧ v' ≠ .slice none 0 0 ∧ Below w.heap.size w w' := Any.slices_Clone_string Try.laysNm216 b off n c zs w hz hbig hc
open Go.RowKit Go.Lib in
theorem Try.slices_Clone_string_nil (n c : Nat) (w : World) :
 Calls Try.prog 54 #[.slice none n c] w fun e w' => e = .returned (.slice none 0 0) ∧ w' = w := Any.slices_Clone_string_nil Try.laysNm216 n c w
open Go.RowKit Go.Lib in
theorem Try.slices_Clone_string_zero (a : Addr) (c : Nat) (w : World) :
 Calls Try.prog 54 #[.slice (some a) 0 c] w fun e w' => ∃ v', e = .returned v' ∧ w'.ownsRow w.heap.size 9 1 v' 0 [] ∧ v' ≠ .slice none 0 0 ∧ Below w.heap.size w w' := Any.slices_Clone_string_zero Try.laysNm216 a c w
end Go.Proofs
namespace Go.Proofs.Ytgddaddoabjgiaa.PA
open RowKit YtgddaddoabjgiaaW.PrintWords YtgddaddoabjgiaaW.PrintLast YtgddaddoabjgiaaW.PrintMore
attribute [local go_sem] max2_int min2_int max_two min_two max_three min_three max_four min_four
set_option linter.unusedVariables false
set_option linter.unusedSimpArgs false
def errW : Option Int → Value
 | none => .nilIface
 | some c => .iface 0 (.int .i64 c)
theorem errW_none : errW none = .nilIface := rfl
theorem errW_some (c : Int) : errW (some c) = .iface 0 (.int .i64 c) := rfl
theorem bytesLess_turn : ∀ (x y : List UInt8), (Op.bytesLess x y || x == y) = !Op.bytesLess y x
 | [], [] => rfl
 | [], _ :: _ => rfl
 | _ :: _, [] => rfl
 | a :: x, b :: y => by
   have ih := bytesLess_turn x y
   simp only [Op.bytesLess, List.cons_beq_cons]
   rcases Nat.lt_trichotomy a.toNat b.toNat with h | h | h
   ·
    have h1 : a < b := UInt8.lt_iff_toNat_lt.2 h
    have h2 : ¬ b < a := fun hc => by have := UInt8.lt_iff_toNat_lt.1 hc; omega
    have h3 : ¬ b = a := fun hc => by subst hc; omega
    have h4 : ¬ a = b := fun hc => by subst hc; omega
    simp [h1, h2, h3, h4]
   ·
    obtain rfl := UInt8.toNat_inj.1 h
    simp [ih]
   ·
    have h1 : ¬ a < b := fun hc => by have := UInt8.lt_iff_toNat_lt.1 hc; omega
    have h2 : b < a := UInt8.lt_iff_toNat_lt.2 h
    have h4 : ¬ a = b := fun hc => by subst hc; omega
    simp [h1, h2, h4]
@[go_sem] theorem bin_leq (t : TypeId) (a b : ByteArray) : binOp .leq t (.string a) (.string b) = pure (.bool (!Op.bytesLess b.toList a.toList)) := by rw [← bytesLess_turn]; simp [binOp, Op.stringOp]
@[go_sem] theorem bin_gtr (t : TypeId) (a b : ByteArray) : binOp .gtr t (.string a) (.string b) = pure (.bool (Op.bytesLess b.toList a.toList)) := by rw [← Bool.not_not (Op.bytesLess b.toList a.toList), ← bytesLess_turn]; simp [binOp, Op.stringOp]
@[go_sem] theorem bin_geq (t : TypeId) (a b : ByteArray) : binOp .geq t (.string a) (.string b) = pure (.bool (!Op.bytesLess a.toList b.toList)) := by simp [binOp, Op.stringOp]
theorem info3 : (Try.prog.info? 3).map (fun i => (i.zero, i.size, i.bytes)) = some (some (.int .i64 0), 1, 8) := by kernel_rfl
theorem info5 : (Try.prog.info? 5).map (fun i => (i.zero, i.size, i.bytes)) = some (some (.int .u8 0), 1, 1) := by kernel_rfl
end Go.Proofs.Ytgddaddoabjgiaa.PA
namespace Go.Proofs.Ytgddaddoabjgiaa.PA
open RowKit YtgddaddoabjgiaaW.PrintWords YtgddaddoabjgiaaW.PrintLast YtgddaddoabjgiaaW.PrintMore
attribute [local go_sem] max2_int min2_int max_two min_two max_three min_three max_four min_four
set_option linter.unusedVariables false
set_option linter.unusedSimpArgs false
mutual
def ident_Put.j0 : Nat → Bool → Int → Int → Bool → Int → Option (ByteArray × Int)
 | 0, _, _, _, _, _ => none
 | k + 1, x25, x102000, x102001, x102002, x102003 => if x25 = true then (some ((⟨#[]⟩ : ByteArray), 1)) else (if x102002 = true then (ident_Put.j1 k (Go.bits .or .u8 ((wrap64 (x102000 * 64)) % 256) 32) x102000 x102001 x102002 x102003) else (ident_Put.j1 k ((wrap64 (x102000 * 64)) % 256) x102000 x102001 x102002 x102003))
def ident_Put.j1 : Nat → Int → Int → Int → Bool → Int → Option (ByteArray × Int)
 | 0, _, _, _, _, _ => none
 | k + 1, x4, x102000, x102001, x102002, x102003 => if x102001 < 31 then (some (strOfNums (([Go.bits .or .u8 x4 ((x102001) % 256)] : List Int)), 0)) else (ident_Put.l0 k (([Go.bits .or .u8 x4 31] : List Int)) 28 x102000 x102001 x102002 x102003)
def ident_Put.l0 : Nat → List Int → Int → Int → Int → Bool → Int → Option (ByteArray × Int)
 | 0, _, _, _, _, _, _ => none
 | k + 1, x5, x6, x102000, x102001, x102002, x102003 => if x6 ≥ 0 then (if 0 ≤ x6 then (if (shr .i64 x102001 x6) = 0 then (ident_Put.l0 k x5 (wrap64 (x6 - 7)) x102000 x102001 x102002 x102003) else (if x6 > 0 then (if x5.length < 140737488355328 then (ident_Put.l0 k (x5 ++ [Go.bits .or .u8 (Go.bits .and .u8 ((shr .i64 x102001 x6) % 256) 127) 128]) (wrap64 (x6 - 7)) x102000 x102001 x102002 x102003) else (none)) else (if x5.length < 140737488355328 then (ident_Put.l0 k (x5 ++ [Go.bits .and .u8 ((shr .i64 x102001 x6) % 256) 127]) (wrap64 (x6 - 7)) x102000 x102001 x102002 x102003) else (none)))) else (none)) else (some (strOfNums x5, 0))
end
def ident_Put.f (k : Nat) (a0_0 : Int) (a0_1 : Int) (a0_2 : Bool) (a0_3 : Int) : Option (ByteArray × Int) := if a0_0 < 0 then (ident_Put.j0 k true a0_0 a0_1 a0_2 a0_3) else (if a0_0 > 3 then (ident_Put.j0 k true a0_0 a0_1 a0_2 a0_3) else (if a0_1 < 0 then (ident_Put.j0 k true a0_0 a0_1 a0_2 a0_3) else (ident_Put.j0 k (decide (a0_1 > 268435455)) a0_0 a0_1 a0_2 a0_3)))
set_option maxHeartbeats 8000000 in
set_option maxRecDepth 100000 in
theorem ident_Put.calls (k : Nat) (a0_0 : Int) (a0_1 : Int) (a0_2 : Bool) (a0_3 : Int) (r1 : ByteArray) (r2 : Int) (w : World) (h : ident_Put.f k a0_0 a0_1 a0_2 a0_3 = some (r1, r2)) :
 Calls Try.prog 62 #[.agg #[.int .i64 a0_0, .int .i64 a0_1, .bool a0_2, .int .i64 a0_3]] w fun e w' => e = .returned (.tuple #[.string r1, .int .i64 r2]) ∧ Below w.heap.size w w' := by
 have hu39 := Try.underlying39
 have HB := Aside0.mk (Below.refl w.heap.size w)
 have H : (if a0_0 < 0 then (ident_Put.j0 k true a0_0 a0_1 a0_2 a0_3) else (if a0_0 > 3 then (ident_Put.j0 k true a0_0 a0_1 a0_2 a0_3) else (if a0_1 < 0 then (ident_Put.j0 k true a0_0 a0_1 a0_2 a0_3) else (ident_Put.j0 k (decide (a0_1 > 268435455)) a0_0 a0_1 a0_2 a0_3)))) = some (r1, r2) := h
 clear h
 have HC2 := Aside0.mk H
 clear H
 go_enter Try.func62, Try.ntmps62
 go_upto_region 1 with (first | ((with_reducible refine gate_dst (N := 1) rfl ?_); refine zzbx (N := 1) (cs := #[.int .i64 a0_0, .int .i64 a0_1, .bool a0_2, .int .i64 a0_3]) (t := 39) ?_; intro gb101 hg w3 hbox hb; have n0_ := Aside0.mk (below_step zz1 hb); have n1_ := Aside0.mk (hbox); have n2_ := Aside0.mk ((zz15 : w.heap.size ≤ gb101)); have n3_ := Aside0.mk ((zz15 : w.heap.size ≤ gb101)); clear HB; have HB := n0_; have BK101 := n1_; have GW101 := n2_; have GE101 := n3_; clear n0_ n1_ n2_ n3_; clear hb hbox hg))
 (try simp only [Act.put, List.setIfInBounds_toArray, List.set_cons_zero, List.set_cons_succ])
 go_cut [25] (fun v25 wc => ∃ (kq : Nat) (x25_1 : Bool), v25 = .bool x25_1 ∧ Aside0 (ident_Put.j0 kq x25_1 a0_0 a0_1 a0_2 a0_3 = some (r1, r2)) ∧ Aside0 (kq ≤ k) ∧ Aside0 (wc.heap[gb101]? = some (.cells #[.int .i64 a0_0, .int .i64 a0_1, .bool a0_2, .int .i64 a0_3] 39 (0, 0))) ∧ Aside0 (Below w.heap.size w wc))
 case first =>
  have H := HC2.out
  clear HC2
  by_cases c4 : a0_0 < 0
  ·
   rw [if_pos c4] at H
   have c4b0 : decide (a0_0 < 0) = true := decide_eq_true c4
   clear c4
   (first | rw [c4b0] | (simp only [i64_w, i32_w]; rw [c4b0]) | skip)
   have H' := Aside0.mk H
   clear H
   have hcz5_0 : w3.cell? ⟨gb101, 0, none⟩ = some (.int .i64 a0_0) := (blk_cell BK101.out 0).trans rfl
   have hcz5_1 : w3.cell? ⟨gb101, 1, none⟩ = some (.int .i64 a0_1) := (blk_cell BK101.out 1).trans rfl
   have hcz5_2 : w3.cell? ⟨gb101, 2, none⟩ = some (.bool a0_2) := (blk_cell BK101.out 2).trans rfl
   have hcz5_3 : w3.cell? ⟨gb101, 3, none⟩ = some (.int .i64 a0_3) := (blk_cell BK101.out 3).trans rfl
   have hfz5_0 := blk_frozen BK101.out 0
   have hfz5_1 := blk_frozen BK101.out 1
   have hfz5_2 := blk_frozen BK101.out 2
   have hfz5_3 := blk_frozen BK101.out 3
   go_wp2
   go_meet
   case rel => exact ⟨_, (true), zz0, H', ⟨zz28⟩, ⟨zz33⟩, ⟨zz9⟩⟩
  ·
   rw [if_neg c4] at H
   have c4b0 : decide (a0_0 < 0) = false := decide_eq_false c4
   clear c4
   (first | rw [c4b0] | (simp only [i64_w, i32_w]; rw [c4b0]) | skip)
   by_cases c6 : a0_0 > 3
   ·
    rw [if_pos c6] at H
    have c6b0 : decide (3 < a0_0) = true := decide_eq_true c6
    clear c6
    have H' := Aside0.mk H
    clear H
    have hcz7_0 : w3.cell? ⟨gb101, 0, none⟩ = some (.int .i64 a0_0) := (blk_cell BK101.out 0).trans rfl
    have hcz7_1 : w3.cell? ⟨gb101, 1, none⟩ = some (.int .i64 a0_1) := (blk_cell BK101.out 1).trans rfl
    have hcz7_2 : w3.cell? ⟨gb101, 2, none⟩ = some (.bool a0_2) := (blk_cell BK101.out 2).trans rfl
    have hcz7_3 : w3.cell? ⟨gb101, 3, none⟩ = some (.int .i64 a0_3) := (blk_cell BK101.out 3).trans rfl
    have hfz7_0 := blk_frozen BK101.out 0
    have hfz7_1 := blk_frozen BK101.out 1
    have hfz7_2 := blk_frozen BK101.out 2
    have hfz7_3 := blk_frozen BK101.out 3
    go_wp2
    go_meet
    case rel => exact ⟨_, (true), zz0, H', ⟨zz28⟩, ⟨zz33⟩, ⟨zz9⟩⟩
   ·
    rw [if_neg c6] at H
    have c6b0 : decide (3 < a0_0) = false := decide_eq_false c6
    clear c6
    by_cases c8 : a0_1 < 0
    ·
     rw [if_pos c8] at H
     have c8b0 : decide (a0_1 < 0) = true := decide_eq_true c8
     clear c8
     have H' := Aside0.mk H
     clear H
     have hcz9_0 : w3.cell? ⟨gb101, 0, none⟩ = some (.int .i64 a0_0) := (blk_cell BK101.out 0).trans rfl
     have hcz9_1 : w3.cell? ⟨gb101, 1, none⟩ = some (.int .i64 a0_1) := (blk_cell BK101.out 1).trans rfl
     have hcz9_2 : w3.cell? ⟨gb101, 2, none⟩ = some (.bool a0_2) := (blk_cell BK101.out 2).trans rfl
     have hcz9_3 : w3.cell? ⟨gb101, 3, none⟩ = some (.int .i64 a0_3) := (blk_cell BK101.out 3).trans rfl
     have hfz9_0 := blk_frozen BK101.out 0
     have hfz9_1 := blk_frozen BK101.out 1
     have hfz9_2 := blk_frozen BK101.out 2
     have hfz9_3 := blk_frozen BK101.out 3
     go_wp2
     go_meet
     case rel => exact ⟨_, (true), zz0, H', ⟨zz28⟩, ⟨zz33⟩, ⟨zz9⟩⟩
    ·
     rw [if_neg c8] at H
     have c8b0 : decide (a0_1 < 0) = false := decide_eq_false c8
     clear c8
     have H' := Aside0.mk H
     clear H
     have hcz10_0 : w3.cell? ⟨gb101, 0, none⟩ = some (.int .i64 a0_0) := (blk_cell BK101.out 0).trans rfl
     have hcz10_1 : w3.cell? ⟨gb101, 1, none⟩ = some (.int .i64 a0_1) := (blk_cell BK101.out 1).trans rfl
     have hcz10_2 : w3.cell? ⟨gb101, 2, none⟩ = some (.bool a0_2) := (blk_cell BK101.out 2).trans rfl
     have hcz10_3 : w3.cell? ⟨gb101, 3, none⟩ = some (.int .i64 a0_3) := (blk_cell BK101.out 3).trans rfl
     have hfz10_0 := blk_frozen BK101.out 0
     have hfz10_1 := blk_frozen BK101.out 1
     have hfz10_2 := blk_frozen BK101.out 2
     have hfz10_3 := blk_frozen BK101.out 3
     go_wp2
     go_meet
     case rel => exact ⟨_, (decide (a0_1 > 268435455)), zz0, H', ⟨zz28⟩, ⟨zz33⟩, ⟨zz9⟩⟩
 case rest =>
  clear HC2
  try clear p2
  try clear c4
  try clear c4b0
  try clear c6
  try clear c6b0
  try clear c8
  try clear c8b0
  try clear hcz10_0
  try clear hcz10_1
  try clear hcz10_2
  try clear hcz10_3
  try clear hcz5_0
  try clear hcz5_1
  try clear hcz5_2
  try clear hcz5_3
  try clear hcz7_0
  try clear hcz7_1
  try clear hcz7_2
  try clear hcz7_3
  try clear hcz9_0
  try clear hcz9_1
  try clear hcz9_2
  try clear hcz9_3
  try clear hfz10_0
  try clear hfz10_1
  try clear hfz10_2
  try clear hfz10_3
  try clear hfz5_0
  try clear hfz5_1
  try clear hfz5_2
  try clear hfz5_3
  try clear hfz7_0
  try clear hfz7_1
  try clear hfz7_2
  try clear hfz7_3
  try clear hfz9_0
  try clear hfz9_1
  try clear hfz9_2
  try clear hfz9_3
  obtain ⟨kq, x25_1, rfl, HA, HJ1, BK101, HB⟩ := hcut
  cases kq with
  | zero => exact absurd HA.out (by simp [ident_Put.j0])
  | succ kj1 =>
    have H := HA.out
    clear HA
    simp only [ident_Put.j0] at H
    by_cases c11 : x25_1 = true
    ·
     subst c11
     have H1 : (some ((⟨#[]⟩ : ByteArray), 1)) = some (r1, r2) := by rw [if_pos rfl] at H; exact H
     clear H
     have H := H1
     clear H1
     simp only [Option.some.injEq, Prod.mk.injEq] at H
     obtain ⟨rfl, rfl⟩ := H
     go_wp2
     go_ret2
     exact ⟨zz3, zz9⟩
    ·
     replace c11 := Bool.eq_false_iff.mpr c11
     subst c11
     have H1 : (if a0_2 = true then (ident_Put.j1 kj1 (Go.bits .or .u8 ((wrap64 (a0_0 * 64)) % 256) 32) a0_0 a0_1 a0_2 a0_3) else (ident_Put.j1 kj1 ((wrap64 (a0_0 * 64)) % 256) a0_0 a0_1 a0_2 a0_3)) = some (r1, r2) := by rw [if_neg (show ¬ (false = true) by decide)] at H; exact H
     clear H
     have H := H1
     clear H1
     have HC12 := Aside0.mk H
     clear H
     have hcz13_0 : wc.cell? ⟨gb101, 0, none⟩ = some (.int .i64 a0_0) := (blk_cell BK101.out 0).trans rfl
     have hcz13_1 : wc.cell? ⟨gb101, 1, none⟩ = some (.int .i64 a0_1) := (blk_cell BK101.out 1).trans rfl
     have hcz13_2 : wc.cell? ⟨gb101, 2, none⟩ = some (.bool a0_2) := (blk_cell BK101.out 2).trans rfl
     have hcz13_3 : wc.cell? ⟨gb101, 3, none⟩ = some (.int .i64 a0_3) := (blk_cell BK101.out 3).trans rfl
     have hfz13_0 := blk_frozen BK101.out 0
     have hfz13_1 := blk_frozen BK101.out 1
     have hfz13_2 := blk_frozen BK101.out 2
     have hfz13_3 := blk_frozen BK101.out 3
     go_upto_if 31 with (fail)
     go_cut [4] (fun v4 wc => ∃ (kq : Nat) (x4_11 : Int), v4 = .int .u8 x4_11 ∧ Aside0 (ident_Put.j1 kq x4_11 a0_0 a0_1 a0_2 a0_3 = some (r1, r2)) ∧ Aside0 (kq ≤ kj1) ∧ Aside0 (wc.heap[gb101]? = some (.cells #[.int .i64 a0_0, .int .i64 a0_1, .bool a0_2, .int .i64 a0_3] 39 (0, 0))) ∧ Aside0 (Below w.heap.size w wc))
     case first =>
      have H := HC12.out
      clear HC12
      by_cases c14 : a0_2 = true
      ·
       subst c14
       have H1 : (ident_Put.j1 kj1 (Go.bits .or .u8 ((wrap64 (a0_0 * 64)) % 256) 32) a0_0 a0_1 true a0_3) = some (r1, r2) := by rw [if_pos rfl] at H; exact H
       clear H
       have H := H1
       clear H1
       have H' := Aside0.mk H
       clear H
       go_wp2
       go_meet
       case rel => exact ⟨_, (Go.bits .or .u8 ((wrap64 (a0_0 * 64)) % 256) 32), zz0, H', ⟨by have := HJ1.out; first | omega | exact Nat.le_refl _⟩, ⟨zz33⟩, ⟨zz9⟩⟩
      ·
       replace c14 := Bool.eq_false_iff.mpr c14
       subst c14
       have H1 : (ident_Put.j1 kj1 ((wrap64 (a0_0 * 64)) % 256) a0_0 a0_1 false a0_3) = some (r1, r2) := by rw [if_neg (show ¬ (false = true) by decide)] at H; exact H
       clear H
       have H := H1
       clear H1
       have H' := Aside0.mk H
       clear H
       go_wp2
       go_meet
       case rel => exact ⟨_, ((wrap64 (a0_0 * 64)) % 256), zz0, H', ⟨by have := HJ1.out; first | omega | exact Nat.le_refl _⟩, ⟨zz33⟩, ⟨zz9⟩⟩
     case rest =>
      clear HC12
      try clear c1
      try clear p2
      try clear c4
      try clear c4b0
      try clear c6
      try clear c6b0
      try clear p6
      try clear c8
      try clear c8b0
      try clear c11
      try clear c14
      try clear hcz10_0
      try clear hcz10_1
      try clear hcz10_2
      try clear hcz10_3
      try clear hcz13_0
      try clear hcz13_1
      try clear hcz13_2
      try clear hcz13_3
      try clear hcz5_0
      try clear hcz5_1
      try clear hcz5_2
      try clear hcz5_3
      try clear hcz7_0
      try clear hcz7_1
      try clear hcz7_2
      try clear hcz7_3
      try clear hcz9_0
      try clear hcz9_1
      try clear hcz9_2
      try clear hcz9_3
      try clear hfz10_0
      try clear hfz10_1
      try clear hfz10_2
      try clear hfz10_3
      try clear hfz13_0
      try clear hfz13_1
      try clear hfz13_2
      try clear hfz13_3
      try clear hfz5_0
      try clear hfz5_1
      try clear hfz5_2
      try clear hfz5_3
      try clear hfz7_0
      try clear hfz7_1
      try clear hfz7_2
      try clear hfz7_3
      try clear hfz9_0
      try clear hfz9_1
      try clear hfz9_2
      try clear hfz9_3
      try clear p2
      obtain ⟨kq, x4_11, rfl, HA, HJ11, BK101, HB⟩ := hcut
      cases kq with
      | zero => exact absurd HA.out (by simp [ident_Put.j1])
      | succ kj11 =>
        have H := HA.out
        clear HA
        simp only [ident_Put.j1] at H
        by_cases c15 : a0_1 < 31
        ·
         rw [if_pos c15] at H
         have c15b0 : decide (a0_1 < 31) = true := decide_eq_true c15
         clear c15
         obtain ⟨y102, hy102⟩ : ∃ y_ : List Int, y_ = (([Go.bits .or .u8 x4_11 ((a0_1) % 256)] : List Int)) := ⟨_, rfl⟩
         replace H : (some (strOfNums y102, 0)) = some (r1, r2) := by first | (rw [hy102]; with_reducible exact H) | (have H2_ := (Option.bind_some _ _).symm.trans H; rw [hy102]; with_reducible exact H2_) | (have H2_ := (Option.bind_some _ _).symm.trans H; with_reducible exact H2_) | with_reducible exact H | (rw [hy102]; exact H) | exact H
         have Ny102 := Aside0.mk hy102
         clear hy102
         simp only [Option.some.injEq, Prod.mk.injEq] at H
         obtain ⟨rfl, rfl⟩ := H
         have hcz16_0 : wc.cell? ⟨gb101, 0, none⟩ = some (.int .i64 a0_0) := (blk_cell BK101.out 0).trans rfl
         have hcz16_1 : wc.cell? ⟨gb101, 1, none⟩ = some (.int .i64 a0_1) := (blk_cell BK101.out 1).trans rfl
         have hcz16_2 : wc.cell? ⟨gb101, 2, none⟩ = some (.bool a0_2) := (blk_cell BK101.out 2).trans rfl
         have hcz16_3 : wc.cell? ⟨gb101, 3, none⟩ = some (.int .i64 a0_3) := (blk_cell BK101.out 3).trans rfl
         have hfz16_0 := blk_frozen BK101.out 0
         have hfz16_1 := blk_frozen BK101.out 1
         have hfz16_2 := blk_frozen BK101.out 2
         have hfz16_3 := blk_frozen BK101.out 3
         go_wp2_with (first | ((with_reducible refine gate_dst (N := 42) rfl ?_); refine Kd.R_lit (Kd.int .u8) _ 5 ?hg (N := 42) ?hd (xs := ([Go.bits .or .u8 x4_11 ((a0_1) % 256)] : List Int)) (inner := [.int .u8 (Go.bits .or .u8 x4_11 ((a0_1) % 256))]) (ok := fun _ => True) (okp := fun _ => True) ?hr ?hp (fun _ hk => hk) trivial (Below.refl _ _) (Nat.le_refl _) zz43 ?_; (case hd => rfl); (case hg => rfl); (case hr => first | (go_simp; done) | (go_simp; rfl)); (case hp => exact (Reps.one (show Kd.M (Kd.int .u8) _ _ _ (Go.bits .or .u8 x4_11 ((a0_1) % 256)) [.int .u8 (Go.bits .or .u8 x4_11 ((a0_1) % 256))] from rfl) (Reps.none _ _))); intro v103 w17 ho18 hb hg_ hnew_; clear hg_ hnew_; (first | rw [← Ny102.out] at ho18 | (simp only [Int.reduceToNat] at ho18; rw [← Ny102.out] at ho18)); have n0_ := Aside0.mk (Kd.R_lower ho18 (below_size zz9)); have n1_ := Aside0.mk (blk_below (g := gb101) (o := .cells #[.int .i64 a0_0, .int .i64 a0_1, .bool a0_2, .int .i64 a0_3] 39 (0, 0)) zz33 hb); have n2_ := Aside0.mk (below_step zz9 hb); clear BK101; clear HB; have HO104 := n0_; have BK101 := n1_; have HB := n2_; clear n0_ n1_ n2_; clear hb ho18; have hcv19 := own_string (P := Try.prog) Try.underlying76 Try.underlying5 Try.underlying9 (Kd.own_of_R HO104.out)))
         go_ret2
         exact ⟨zz3, zz9⟩
        ·
         rw [if_neg c15] at H
         have c15b0 : decide (a0_1 < 31) = false := decide_eq_false c15
         clear c15
         obtain ⟨y105, hy105⟩ : ∃ y_ : List Int, y_ = (([Go.bits .or .u8 x4_11 31] : List Int)) := ⟨_, rfl⟩
         replace H : (ident_Put.l0 kj11 y105 28 a0_0 a0_1 a0_2 a0_3) = some (r1, r2) := by first | (rw [hy105]; with_reducible exact H) | (have H2_ := (Option.bind_some _ _).symm.trans H; rw [hy105]; with_reducible exact H2_) | (have H2_ := (Option.bind_some _ _).symm.trans H; with_reducible exact H2_) | with_reducible exact H | (rw [hy105]; exact H) | exact H
         have Ny105 := Aside0.mk hy105
         clear hy105
         have H' := Aside0.mk H
         clear H
         have hcz20_0 : wc.cell? ⟨gb101, 0, none⟩ = some (.int .i64 a0_0) := (blk_cell BK101.out 0).trans rfl
         have hcz20_1 : wc.cell? ⟨gb101, 1, none⟩ = some (.int .i64 a0_1) := (blk_cell BK101.out 1).trans rfl
         have hcz20_2 : wc.cell? ⟨gb101, 2, none⟩ = some (.bool a0_2) := (blk_cell BK101.out 2).trans rfl
         have hcz20_3 : wc.cell? ⟨gb101, 3, none⟩ = some (.int .i64 a0_3) := (blk_cell BK101.out 3).trans rfl
         have hfz20_0 := blk_frozen BK101.out 0
         have hfz20_1 := blk_frozen BK101.out 1
         have hfz20_2 := blk_frozen BK101.out 2
         have hfz20_3 := blk_frozen BK101.out 3
         go_wp2_with (first | ((with_reducible refine gate_dst (N := 46) rfl ?_); refine Kd.R_lit (Kd.int .u8) _ 5 ?hg (N := 46) ?hd (xs := ([Go.bits .or .u8 x4_11 31] : List Int)) (inner := [.int .u8 (Go.bits .or .u8 x4_11 31)]) (ok := fun _ => True) (okp := fun _ => True) ?hr ?hp (fun _ hk => hk) trivial (Below.refl _ _) (Nat.le_refl _) zz43 ?_; (case hd => rfl); (case hg => rfl); (case hr => first | (go_simp; done) | (go_simp; rfl)); (case hp => exact (Reps.one (show Kd.M (Kd.int .u8) _ _ _ (Go.bits .or .u8 x4_11 31) [.int .u8 (Go.bits .or .u8 x4_11 31)] from rfl) (Reps.none _ _))); intro v106 w21 ho22 hb hg_ hnew_; clear hg_ hnew_; (first | rw [← Ny105.out] at ho22 | (simp only [Int.reduceToNat] at ho22; rw [← Ny105.out] at ho22)); have n0_ := Aside0.mk (Kd.R_lower ho22 (below_size zz9)); have n1_ := Aside0.mk (blk_below (g := gb101) (o := .cells #[.int .i64 a0_0, .int .i64 a0_1, .bool a0_2, .int .i64 a0_3] 39 (0, 0)) zz33 hb); have n2_ := Aside0.mk (below_step zz9 hb); clear BK101; clear HB; have HO107 := n0_; have BK101 := n1_; have HB := n2_; clear n0_ n1_ n2_; clear hb ho22))
         go_loopg [5, 6] kj11 (fun kq v5 v6 w' => ∃ (x5_3 : List Int) (x6_3 : Int), v6 = .int .i64 x6_3 ∧ Aside0 (ident_Put.l0 kq x5_3 x6_3 a0_0 a0_1 a0_2 a0_3 = some (r1, r2)) ∧ Aside0 (kq ≤ kj11) ∧ Aside0 (Kd.R (Kd.int .u8) 5 w' w.heap.size (fun _ => True) v5 x5_3) ∧ Aside0 (w'.heap[gb101]? = some (.cells #[.int .i64 a0_0, .int .i64 a0_1, .bool a0_2, .int .i64 a0_3] 39 (0, 0))) ∧ Aside0 (Below w.heap.size w w'))
         case atStart => exact ⟨(y105), (28), zz0, H', ⟨Nat.le_refl _⟩, ⟨by (with_reducible repeat (first | apply Kd.R_alloc | apply Kd.R_drewN | apply Kd.R_drew)); exact HO107.out⟩, ⟨zz33⟩, ⟨zz9⟩⟩
         case round =>
          clear H'
          try clear c1
          try clear hcv1
          try clear p2
          try clear c4
          try clear c4b0
          try clear c6
          try clear c6b0
          try clear p6
          try clear c8
          try clear c8b0
          try clear c11
          try clear c14
          try clear c15
          try clear c15b0
          try clear hcv19
          try clear hcz10_0
          try clear hcz10_1
          try clear hcz10_2
          try clear hcz10_3
          try clear hcz13_0
          try clear hcz13_1
          try clear hcz13_2
          try clear hcz13_3
          try clear hcz16_0
          try clear hcz16_1
          try clear hcz16_2
          try clear hcz16_3
          try clear hcz20_0
          try clear hcz20_1
          try clear hcz20_2
          try clear hcz20_3
          try clear hcz5_0
          try clear hcz5_1
          try clear hcz5_2
          try clear hcz5_3
          try clear hcz7_0
          try clear hcz7_1
          try clear hcz7_2
          try clear hcz7_3
          try clear hcz9_0
          try clear hcz9_1
          try clear hcz9_2
          try clear hcz9_3
          try clear hfz10_0
          try clear hfz10_1
          try clear hfz10_2
          try clear hfz10_3
          try clear hfz13_0
          try clear hfz13_1
          try clear hfz13_2
          try clear hfz13_3
          try clear hfz16_0
          try clear hfz16_1
          try clear hfz16_2
          try clear hfz16_3
          try clear hfz20_0
          try clear hfz20_1
          try clear hfz20_2
          try clear hfz20_3
          try clear hfz5_0
          try clear hfz5_1
          try clear hfz5_2
          try clear hfz5_3
          try clear hfz7_0
          try clear hfz7_1
          try clear hfz7_2
          try clear hfz7_3
          try clear hfz9_0
          try clear hfz9_1
          try clear hfz9_2
          try clear hfz9_3
          try clear p2
          try clear p6
          obtain ⟨x5_3, x6_3, rfl, HA, HK3, HO_5, BK101, HB⟩ := hrel
          cases gk with
          | zero => exact absurd HA.out (by simp [ident_Put.l0])
          | succ k3 =>
            have H := HA.out
            clear HA
            simp only [ident_Put.l0] at H
            by_cases c23 : x6_3 ≥ 0
            ·
             rw [if_pos c23] at H
             have c23b0 : decide (0 ≤ x6_3) = true := decide_eq_true c23
             clear c23
             by_cases c24 : 0 ≤ x6_3
             ·
              rw [if_pos c24] at H
              have c24b0 := eq_true c24
              have c24b1 : decide (0 ≤ x6_3) = true := decide_eq_true c24
              clear c24
              obtain ⟨ji25, hji25⟩ : ∃ j_ : Int, (shr .i64 a0_1 x6_3) = j_ := ⟨_, rfl⟩
              replace H : (if (ji25) = 0 then (ident_Put.l0 k3 x5_3 (wrap64 (x6_3 - 7)) a0_0 a0_1 a0_2 a0_3) else (if x6_3 > 0 then (if x5_3.length < 140737488355328 then (ident_Put.l0 k3 (x5_3 ++ [Go.bits .or .u8 (Go.bits .and .u8 ((ji25) % 256) 127) 128]) (wrap64 (x6_3 - 7)) a0_0 a0_1 a0_2 a0_3) else (none)) else (if x5_3.length < 140737488355328 then (ident_Put.l0 k3 (x5_3 ++ [Go.bits .and .u8 ((ji25) % 256) 127]) (wrap64 (x6_3 - 7)) a0_0 a0_1 a0_2 a0_3) else (none)))) = some (r1, r2) := by first | (rw [hji25] at H; exact H) | (simp only [hji25] at H ⊢; exact H)
              have hji25_ : (a0_1 / 2 ^ min x6_3.toNat 64) = ji25 := hji25
              have hji25z : x6_3 ≤ 64 → (a0_1 / 2 ^ x6_3.toNat) = ji25 := shr_small hji25
              by_cases c26 : (ji25) = 0
              ·
               rw [if_pos c26] at H
               have c26b0 : ((ji25) == 0) = true := beq_iff_eq.mpr c26
               have c26b1 : ((ji25) != 0) = false := bne_eq_false_iff_eq.mpr c26
               clear c26
               have H' := Aside0.mk H
               clear H
               have hcz27_0 : wr.cell? ⟨gb101, 0, none⟩ = some (.int .i64 a0_0) := (blk_cell BK101.out 0).trans rfl
               have hcz27_1 : wr.cell? ⟨gb101, 1, none⟩ = some (.int .i64 a0_1) := (blk_cell BK101.out 1).trans rfl
               have hcz27_2 : wr.cell? ⟨gb101, 2, none⟩ = some (.bool a0_2) := (blk_cell BK101.out 2).trans rfl
               have hcz27_3 : wr.cell? ⟨gb101, 3, none⟩ = some (.int .i64 a0_3) := (blk_cell BK101.out 3).trans rfl
               have hfz27_0 := blk_frozen BK101.out 0
               have hfz27_1 := blk_frozen BK101.out 1
               have hfz27_2 := blk_frozen BK101.out 2
               have hfz27_3 := blk_frozen BK101.out 3
               go_wp2
               go_roundg k3
               case measure => have := HJ1.out; have := HJ11.out; have := HK3.out; omega
               case rel => exact ⟨(x5_3), (wrap64 (x6_3 - 7)), zz0, H', ⟨zz78⟩, ⟨zz53⟩, ⟨zz33⟩, ⟨zz9⟩⟩
              ·
               rw [if_neg c26] at H
               have c26b0 : ((ji25) == 0) = false := beq_eq_false_iff_ne.mpr c26
               have c26b1 : ((ji25) != 0) = true := bne_iff_ne.mpr c26
               have c28b0 := eq_true (of_decide_eq_true zz6 : 0 ≤ x6_3)
               by_cases c29 : x6_3 > 0
               ·
                rw [if_pos c29] at H
                have c29b0 : decide (0 < x6_3) = true := decide_eq_true c29
                clear c29
                by_cases c30 : x5_3.length < 140737488355328
                ·
                 rw [if_pos c30] at H
                 have LMc30 := Aside0.mk c30
                 clear c30
                 obtain ⟨y108, hy108⟩ : ∃ y_ : List Int, y_ = (x5_3 ++ [Go.bits .or .u8 (Go.bits .and .u8 ((ji25) % 256) 127) 128]) := ⟨_, rfl⟩
                 replace H : (ident_Put.l0 k3 y108 (wrap64 (x6_3 - 7)) a0_0 a0_1 a0_2 a0_3) = some (r1, r2) := by first | (rw [hy108]; with_reducible exact H) | (have H2_ := (Option.bind_some _ _).symm.trans H; rw [hy108]; with_reducible exact H2_) | (have H2_ := (Option.bind_some _ _).symm.trans H; with_reducible exact H2_) | with_reducible exact H | (rw [hy108]; exact H) | exact H
                 have Ny108 := Aside0.mk hy108
                 clear hy108
                 have H' := Aside0.mk H
                 clear H
                 have hcz31_0 : wr.cell? ⟨gb101, 0, none⟩ = some (.int .i64 a0_0) := (blk_cell BK101.out 0).trans rfl
                 have hcz31_1 : wr.cell? ⟨gb101, 1, none⟩ = some (.int .i64 a0_1) := (blk_cell BK101.out 1).trans rfl
                 have hcz31_2 : wr.cell? ⟨gb101, 2, none⟩ = some (.bool a0_2) := (blk_cell BK101.out 2).trans rfl
                 have hcz31_3 : wr.cell? ⟨gb101, 3, none⟩ = some (.int .i64 a0_3) := (blk_cell BK101.out 3).trans rfl
                 have hfz31_0 := blk_frozen BK101.out 0
                 have hfz31_1 := blk_frozen BK101.out 1
                 have hfz31_2 := blk_frozen BK101.out 2
                 have hfz31_3 := blk_frozen BK101.out 3
                 go_wp2_with (first | ((with_reducible refine gate_builtin (b := .append) (xs := #[.tmp 66, .tmp 68]) rfl ?_); at_builtin; refine Kd.R_append (Kd.int .u8) (w0 := w) w.heap.size rfl (.tmp 66) (.tmp 68) 76 5 (.int .u8 0) 1 rfl Try.underlying76 info5 rfl zz13 zz7 u5 x5_3 (Go.bits .or .u8 (Go.bits .and .u8 ((ji25) % 256) 127) 128) [.int .u8 (Go.bits .or .u8 (Go.bits .and .u8 ((ji25) % 256) 127) 128)] (fun _ => True) (fun _ => False) rfl rfl ?aP (fun _ hk => hk.elim) ?aF ?aO ?aB ?aS ?aL ?_; (case aP => exact rfl); (case aB => exact zz9); (case aF => exact (fun _ _ => trivial)); (case aO => exact zz53); (case aS => exact (below_size zz9)); (case aL => have := LMc30.out; omega); intro v109 w32 ho hb hg hat; rw [← Ny108.out] at ho; have n0_ := Aside0.mk (blk_grown (g := gb101) (o := .cells #[.int .i64 a0_0, .int .i64 a0_1, .bool a0_2, .int .i64 a0_3] 39 (0, 0)) zz33 hg (Kd.R_ne HO_5.out BK101.out zz13)); have n1_ := Aside0.mk (hb); have n2_ := Aside0.mk (ho); clear BK101; clear HB; clear HO_5; have BK101 := n0_; have HB := n1_; have HO110 := n2_; clear n0_ n1_ n2_; clear ho hb hg hat))
                 go_roundg k3
                 case measure => have := HJ1.out; have := HJ11.out; have := HK3.out; omega
                 case rel => exact ⟨(y108), (wrap64 (x6_3 - 7)), zz0, H', ⟨zz78⟩, ⟨by (with_reducible repeat (first | apply Kd.R_alloc | apply Kd.R_drewN | apply Kd.R_drew)); exact HO110.out⟩, ⟨zz33⟩, ⟨zz9⟩⟩
                ·
                 rw [if_neg c30] at H
                 exact absurd H zz43
               ·
                rw [if_neg c29] at H
                have c29b0 : decide (0 < x6_3) = false := decide_eq_false c29
                clear c29
                by_cases c33 : x5_3.length < 140737488355328
                ·
                 rw [if_pos c33] at H
                 have LMc33 := Aside0.mk c33
                 clear c33
                 obtain ⟨y111, hy111⟩ : ∃ y_ : List Int, y_ = (x5_3 ++ [Go.bits .and .u8 ((ji25) % 256) 127]) := ⟨_, rfl⟩
                 replace H : (ident_Put.l0 k3 y111 (wrap64 (x6_3 - 7)) a0_0 a0_1 a0_2 a0_3) = some (r1, r2) := by first | (rw [hy111]; with_reducible exact H) | (have H2_ := (Option.bind_some _ _).symm.trans H; rw [hy111]; with_reducible exact H2_) | (have H2_ := (Option.bind_some _ _).symm.trans H; with_reducible exact H2_) | with_reducible exact H | (rw [hy111]; exact H) | exact H
                 have Ny111 := Aside0.mk hy111
                 clear hy111
                 have H' := Aside0.mk H
                 clear H
                 have hcz34_0 : wr.cell? ⟨gb101, 0, none⟩ = some (.int .i64 a0_0) := (blk_cell BK101.out 0).trans rfl
                 have hcz34_1 : wr.cell? ⟨gb101, 1, none⟩ = some (.int .i64 a0_1) := (blk_cell BK101.out 1).trans rfl
                 have hcz34_2 : wr.cell? ⟨gb101, 2, none⟩ = some (.bool a0_2) := (blk_cell BK101.out 2).trans rfl
                 have hcz34_3 : wr.cell? ⟨gb101, 3, none⟩ = some (.int .i64 a0_3) := (blk_cell BK101.out 3).trans rfl
                 have hfz34_0 := blk_frozen BK101.out 0
                 have hfz34_1 := blk_frozen BK101.out 1
                 have hfz34_2 := blk_frozen BK101.out 2
                 have hfz34_3 := blk_frozen BK101.out 3
                 go_wp2_with (first | ((with_reducible refine gate_builtin (b := .append) (xs := #[.tmp 66, .tmp 68]) rfl ?_); at_builtin; refine Kd.R_append (Kd.int .u8) (w0 := w) w.heap.size rfl (.tmp 66) (.tmp 68) 76 5 (.int .u8 0) 1 rfl Try.underlying76 info5 rfl zz13 zz7 u5 x5_3 (Go.bits .and .u8 ((ji25) % 256) 127) [.int .u8 (Go.bits .and .u8 ((ji25) % 256) 127)] (fun _ => True) (fun _ => False) rfl rfl ?aP (fun _ hk => hk.elim) ?aF ?aO ?aB ?aS ?aL ?_; (case aP => exact rfl); (case aB => exact zz9); (case aF => exact (fun _ _ => trivial)); (case aO => exact zz53); (case aS => exact (below_size zz9)); (case aL => have := LMc33.out; omega); intro v112 w35 ho hb hg hat; rw [← Ny111.out] at ho; have n0_ := Aside0.mk (blk_grown (g := gb101) (o := .cells #[.int .i64 a0_0, .int .i64 a0_1, .bool a0_2, .int .i64 a0_3] 39 (0, 0)) zz33 hg (Kd.R_ne HO_5.out BK101.out zz13)); have n1_ := Aside0.mk (hb); have n2_ := Aside0.mk (ho); clear BK101; clear HB; clear HO_5; have BK101 := n0_; have HB := n1_; have HO113 := n2_; clear n0_ n1_ n2_; clear ho hb hg hat))
                 go_roundg k3
                 case measure => have := HJ1.out; have := HJ11.out; have := HK3.out; omega
                 case rel => exact ⟨(y111), (wrap64 (x6_3 - 7)), zz0, H', ⟨zz78⟩, ⟨by (with_reducible repeat (first | apply Kd.R_alloc | apply Kd.R_drewN | apply Kd.R_drew)); exact HO113.out⟩, ⟨zz33⟩, ⟨zz9⟩⟩
                ·
                 rw [if_neg c33] at H
                 exact absurd H zz43
             ·
              rw [if_neg c24] at H
              exact absurd H zz43
            ·
             rw [if_neg c23] at H
             have c23b0 : decide (0 ≤ x6_3) = false := decide_eq_false c23
             clear c23
             simp only [Option.some.injEq, Prod.mk.injEq] at H
             obtain ⟨rfl, rfl⟩ := H
             have hcv36 := own_string (P := Try.prog) Try.underlying76 Try.underlying5 Try.underlying9 (Kd.own_of_R HO_5.out)
             go_wp2
             go_ret2
             exact ⟨zz3, zz9⟩
end Go.Proofs.Ytgddaddoabjgiaa.PA
namespace Go.Proofs.Ytgddaddoabjgiaa.BId
open RowKit PA YtgddaddoabjgiaaW.PrintWords YtgddaddoabjgiaaW.PrintLast YtgddaddoabjgiaaW.PrintMore
open Idm
set_option linter.unusedVariables false
theorem w64 {x : Int} (h0 : -9223372036854775808 ≤ x) (h1 : x ≤ 9223372036854775807) : wrap64 x = x := by unfold wrap64; omega
theorem u8_or5 (x y : Int) (hx₀ : 0 ≤ x) (hx : x % 32 = 0) (hx₁ : x < 256) (h₀ : 0 ≤ y) (h₁ : y < 32) : bits .or .u8 x y = x + y :=
  bits_join .u8 8 zz13 wraps_u8 5 x y hx₀ hx hx₁ h₀ h₁ zz7
theorem u8_and127 (x : Int) (h₀ : 0 ≤ x) (h₁ : x < 256) : bits .and .u8 x 127 = x % 128 := bits_mask .u8 8 zz13 wraps_u8 7 zz13 x h₀ h₁
theorem u8_or_128 (x : Int) (h₀ : 0 ≤ x) (h₁ : x < 128) : bits .or .u8 x 128 = 128 + x := by
  have h : ∀ n : Nat, n < 128 → bits .or .u8 (n : Int) 128 = 128 + (n : Int) := by decide +kernel
  have := h x.toNat zz7
  rwa [Int.toNat_of_nonneg h₀] at this
theorem shr_n (t : Int) (n : Nat) (h : n ≤ 64) : shr .i64 t (n : Int) = t / 2 ^ n := by
  unfold shr
  rw [show min ((n : Int).toNat) (IntKind.bits .i64) = n by simp [IntKind.bits]; omega]
theorem shr28 (t : Int) (h0 : 0 ≤ t) (h : t ≤ 268435455) : shr .i64 t 28 = 0 := by
  have := shr_n t 28 zz13
  rw [show ((28 : Nat) : Int) = 28 from rfl] at this
  rw [this]; omega
theorem shr21 (t : Int) : shr .i64 t 21 = t / 128 / 128 / 128 := by
  have := shr_n t 21 zz13
  rw [show ((21 : Nat) : Int) = 21 from rfl] at this
  rw [this, Int.ediv_ediv_of_nonneg zz13, Int.ediv_ediv_of_nonneg zz13]; rfl
theorem shr14 (t : Int) : shr .i64 t 14 = t / 128 / 128 := by
  have := shr_n t 14 zz13
  rw [show ((14 : Nat) : Int) = 14 from rfl] at this
  rw [this, Int.ediv_ediv_of_nonneg zz13]; rfl
theorem shr7 (t : Int) : shr .i64 t 7 = t / 128 := by
  have := shr_n t 7 zz13
  rw [show ((7 : Nat) : Int) = 7 from rfl] at this
  rw [this]; rfl
theorem shr0 (t : Int) : shr .i64 t 0 = t := by
  have := shr_n t 0 zz13
  rw [show ((0 : Nat) : Int) = 0 from rfl] at this
  rw [this]; simp
theorem bytes_of (s : ByteArray) : Bytes (bytesOf s) := by
  intro b hb
  simp only [bytesOf, List.mem_map] at hb
  obtain ⟨u, _, rfl⟩ := hb
  have := u.toNat_lt
  omega
theorem bytesOf_nums (l : List Int) (h : Bytes l) : bytesOf (strOfNums l) = l := by
  unfold bytesOf
  rw [strOfNums_data, List.map_map]
  conv => rhs; rw [← List.map_id l]
  apply List.map_congr_left
  intro x hx
  have := h x hx
  simp only [Function.comp, id]
  rw [UInt8.toNat_ofNat_of_lt' (by have : x.toNat < 256 := by omega
                                   simpa [UInt8.size] using this)]
  omega
theorem bytesOf_append (a b : ByteArray) : bytesOf (a ++ b) = bytesOf a ++ bytesOf b := by
  simp [bytesOf, ByteArray.data_append]
theorem bytesOf_inj {a b : ByteArray} (h : bytesOf a = bytesOf b) : a = b := by
  have h' : a.data.toList = b.data.toList := by
    unfold bytesOf at h
    refine List.map_inj_right (fun x y hxy => ?_) |>.1 h
    have : x.toNat = y.toNat := by omega
    exact UInt8.toNat_inj.1 this
  exact ByteArray.ext (Array.ext' h')
theorem drop_at (s : ByteArray) (i : Int) (h0 : 0 ≤ i) (h1 : i < s.size) : (bytesOf s).drop i.toNat = bt s i :: (bytesOf s).drop (i + 1).toNat := by
  have hl : i.toNat < (bytesOf s).length := by rw [bytesOf_length]; omega
  rw [List.drop_eq_getElem_cons hl, show (i + 1).toNat = i.toNat + 1 by omega, ← rd_bytesOf, rd, List.getD_eq_getElem?_getD, List.getElem?_eq_getElem hl]
  rfl
theorem first_byte (c : Int) (cons : Bool) (h0 : 0 ≤ c) (h3 : c ≤ 3) :
    (if cons = true then Go.bits .or .u8 ((wrap64 (c * 64)) % 256) 32 else ((wrap64 (c * 64)) % 256)) = 64 * c + 32 * cb cons := by
  rcases (zz7 : c = 0 ∨ c = 1 ∨ c = 2 ∨ c = 3) with rfl | rfl | rfl | rfl <;> cases cons <;> decide +kernel
theorem put_l0 (k : Nat) (x5 : List Int) (x6 c t : Int) (cons : Bool) (l : Int) (h5 : x5.length < 140737488355328) :
    ident_Put.l0 (k + 1) x5 x6 c t cons l = if x6 ≥ 0 then (if shr .i64 t x6 = 0 then ident_Put.l0 k x5 (wrap64 (x6 - 7)) c t cons l
      else if x6 > 0 then ident_Put.l0 k (x5 ++ [Go.bits .or .u8 (Go.bits .and .u8 ((shr .i64 t x6) % 256) 127) 128]) (wrap64 (x6 - 7)) c t cons l
      else ident_Put.l0 k (x5 ++ [Go.bits .and .u8 ((shr .i64 t x6) % 256) 127]) (wrap64 (x6 - 7)) c t cons l) else some (strOfNums x5, 0) := by
  simp only [ident_Put.l0]
  by_cases h : x6 ≥ 0
  · rw [if_pos h, if_pos h, if_pos h]
    split
    · rfl
    · simp only
  · rw [if_neg h, if_neg h]
theorem more_byte (y : Int) : Go.bits .or .u8 (Go.bits .and .u8 (y % 256) 127) 128 = 128 + y % 128 := by
  rw [u8_and127 _ zz7 zz7, u8_or_128 _ zz7 zz7]; omega
theorem last_byte (y : Int) : Go.bits .and .u8 (y % 256) 127 = y % 128 := by
  rw [u8_and127 _ zz7 zz7]; omega
theorem put_loop (k : Nat) (b c t : Int) (cons : Bool) (l : Int) (h31 : 31 ≤ t) (hm : t ≤ 268435455) :
    ident_Put.l0 (k + 6) [b] 28 c t cons l = some (strOfNums (b :: grp t), 0) := by
  rw [put_l0 _ _ _ _ _ _ _ zz43, if_pos zz13, if_pos (shr28 t zz7 hm), show wrap64 (28 - 7) = 21 by decide +kernel]
  rw [put_l0 _ _ _ _ _ _ _ zz43, if_pos zz13, shr21, show wrap64 (21 - 7) = 14 by decide +kernel]
  unfold grp
  by_cases h1 : t < 128
  · rw [if_pos zz7, put_l0 _ _ _ _ _ _ _ zz43, if_pos zz13, shr14, if_pos zz7, show wrap64 (14 - 7) = 7 by decide +kernel, put_l0 _ _ _ _ _ _ _ zz43, if_pos zz13, shr7, if_pos zz7, show wrap64 (7 - 7) = 0 by decide +kernel,
      put_l0 _ _ _ _ _ _ _ zz43, if_pos zz13, shr0, if_neg zz7, if_neg zz13, last_byte, put_l0 _ _ _ _ _ _ _ zz43, if_neg (by decide +kernel), if_pos h1]
    simp [show t % 128 = t by omega]
  by_cases h2 : t < 16384
  · rw [if_pos zz7, put_l0 _ _ _ _ _ _ _ zz43, if_pos zz13, shr14, if_pos zz7, show wrap64 (14 - 7) = 7 by decide +kernel, put_l0 _ _ _ _ _ _ _ zz43, if_pos zz13, shr7, if_neg zz7, if_pos zz13, more_byte, show wrap64 (7 - 7) = 0 by decide +kernel,
      put_l0 _ _ _ _ _ _ _ zz43, if_pos zz13, shr0, if_neg zz7, if_neg zz13, last_byte, put_l0 _ _ _ _ _ _ _ zz43, if_neg (by decide +kernel), if_neg h1, if_pos h2]
    simp [show t / 128 % 128 = t / 128 by omega]
  by_cases h3 : t < 2097152
  · rw [if_pos zz7, put_l0 _ _ _ _ _ _ _ zz43, if_pos zz13, shr14, if_neg zz7, if_pos zz13, more_byte, show wrap64 (14 - 7) = 7 by decide +kernel, put_l0 _ _ _ _ _ _ _ zz43, if_pos zz13, shr7, if_neg zz7, if_pos zz13, more_byte, show wrap64 (7 - 7) = 0 by decide +kernel,
      put_l0 _ _ _ _ _ _ _ zz43, if_pos zz13, shr0, if_neg zz7, if_neg zz13, last_byte, put_l0 _ _ _ _ _ _ _ zz43, if_neg (by decide +kernel), if_neg h1, if_neg h2, if_pos h3]
    simp [show t / 128 / 128 % 128 = t / 128 / 128 by omega]
  · rw [if_neg zz7, if_pos zz13, more_byte, put_l0 _ _ _ _ _ _ _ zz43, if_pos zz13, shr14, if_neg zz7, if_pos zz13, more_byte, show wrap64 (14 - 7) = 7 by decide +kernel, put_l0 _ _ _ _ _ _ _ zz43, if_pos zz13, shr7, if_neg zz7, if_pos zz13, more_byte, show wrap64 (7 - 7) = 0 by decide +kernel,
      put_l0 _ _ _ _ _ _ _ zz43, if_pos zz13, shr0, if_neg zz7, if_neg zz13, last_byte, put_l0 _ _ _ _ _ _ _ zz43, if_neg (by decide +kernel), if_neg h1, if_neg h2, if_neg h3]
    simp [show t / 128 / 128 / 128 % 128 = t / 128 / 128 / 128 by omega]
theorem put_ok (k : Nat) {c t : Int} (cons : Bool) (l : Int) (h : Valid c t) : ident_Put.f (k + 8) c t cons l = some (strOfNums (enc c t cons), 0) := by
  obtain ⟨h0, h3, t0, tm⟩ := h
  have hb := first_byte c cons h0 h3
  have hc := cb_range cons
  unfold ident_Put.f
  rw [if_neg zz7, if_neg zz7, if_neg zz7, show decide (t > 268435455) = false by simp; omega]
  have e : ident_Put.j0 (k + 8) false c t cons l = ident_Put.j1 (k + 7) (64 * c + 32 * cb cons) c t cons l := by
    rw [← hb]
    simp only [ident_Put.j0, Bool.false_eq_true, if_false]
    cases cons <;> rfl
  rw [e]
  simp only [ident_Put.j1]
  unfold enc
  by_cases h31 : t < 31
  · rw [if_pos h31, if_pos h31, show t % 256 = t by omega, u8_or5 _ _ zz7 zz7 zz7 t0 zz7]
  · rw [if_neg h31, if_neg h31, u8_or5 _ _ zz7 zz7 zz7 zz13 zz13]
    exact put_loop k _ c t cons l zz7 tm
theorem put_bad (k : Nat) {c t : Int} (cons : Bool) (l : Int) (h : ¬ Valid c t) : ident_Put.f (k + 1) c t cons l = some (⟨#[]⟩, 1) := by
  unfold ident_Put.f
  have e : ident_Put.j0 (k + 1) true c t cons l = some (⟨#[]⟩, 1) := by simp only [ident_Put.j0, if_true]
  by_cases h1 : c < 0
  · rw [if_pos h1, e]
  by_cases h2 : c > 3
  · rw [if_neg h1, if_pos h2, e]
  by_cases h3 : t < 0
  · rw [if_neg h1, if_neg h2, if_pos h3, e]
  by_cases h4 : t > 268435455
  · rw [if_neg h1, if_neg h2, if_neg h3, show decide (t > 268435455) = true by simpa using h4, e]
  · exact absurd ⟨zz7, zz7, zz7, zz7⟩ h
end Go.Proofs.Ytgddaddoabjgiaa.BId
namespace Go.Proofs.Ytgddaddoabjgiaa.Lenm
open Idm
set_option linter.unusedVariables false
def val (l : List Int) : Int := l.foldl (fun a b => 256 * a + b) 0
def lb (n : Nat) : List Int := if h : n < 256 then [(n : Int)] else lb (n / 256) ++ [((n % 256 : Nat) : Int)]
def lenc (n : Int) : List Int := if n < 128 then [n] else (128 + ((lb n.toNat).length : Int)) :: lb n.toNat
def MaxLen : Int := 2305843009213693951
def lg : List Int → Int × Nat × Int
 | [] => (0, 0, 2)
 | f :: r =>
   if f < 128 then (f, 1, 0)
   else if f = 128 ∨ 136 < f then (0, 0, 4)
   else if 0 < r.length ∧ (r.getD 0 0 = 0 ∨ f = 129 ∧ r.getD 0 0 < 128) then (0, 1, 4)
   else if (r.length : Int) < f - 128 then (0, 1 + r.length, 2)
   else if MaxLen < val (r.take (f - 128).toNat) then (0, (f - 128).toNat, 4)
   else (val (r.take (f - 128).toNat), 1 + (f - 128).toNat, 0)
theorem rev_ind {α : Type} {p : List α → Prop} (h0 : p []) (h1 : ∀ l b, p l → p (l ++ [b])) (l : List α) : p l := by
 have key : ∀ r : List α, p r.reverse := by
  intro r
  induction r with
  | nil => exact h0
  | cons a r ih => rw [List.reverse_cons]; exact h1 _ _ ih
 have := key l.reverse
 rwa [List.reverse_reverse] at this
theorem getD_front (l r : List Int) (h : 0 < l.length) : (l ++ r).getD 0 0 = l.getD 0 0 := by
 cases l with
 | nil => simp at h
 | cons a l => rfl
theorem val_snoc (l : List Int) (b : Int) : val (l ++ [b]) = 256 * val l + b := by simp [val, List.foldl_append]
theorem lb_val (n : Nat) : val (lb n) = n := by
 induction n using Nat.strongRecOn with
 | ind n ih =>
   rw [lb]
   split
   ·
    simp [val]
   ·
    rw [val_snoc, ih (n / 256) zz7]; omega
theorem lb_bytes (n : Nat) : Bytes (lb n) := by
 induction n using Nat.strongRecOn with
 | ind n ih =>
   rw [lb]
   split
   ·
    intro b hb; simp at hb; omega
   ·
    intro b hb
    simp only [List.mem_append, List.mem_singleton] at hb
    rcases hb with hb | hb
    ·
     exact ih (n / 256) zz7 b hb
    ·
     omega
theorem lb_ne (n : Nat) : lb n ≠ [] := by rw [lb]; split <;> simp
theorem lb_pos (n : Nat) : 0 < (lb n).length := List.length_pos_iff.2 (lb_ne n)
theorem lb_head (n : Nat) (h : 0 < n) : 0 < (lb n).getD 0 0 := by
 induction n using Nat.strongRecOn with
 | ind n ih =>
   rw [lb]
   split
   ·
    simp; omega
   ·
    have h1 := ih (n / 256) zz7 zz7
    have h2 := lb_pos (n / 256)
    rwa [getD_front _ _ h2]
theorem lb_small (n : Nat) (h : n < 256) : lb n = [(n : Int)] := by rw [lb, dif_pos h]
theorem lb_big (n : Nat) (h : 256 ≤ n) : lb n = lb (n / 256) ++ [((n % 256 : Nat) : Int)] := by rw [lb, dif_neg zz7]
theorem lb_len_one (n : Nat) : (lb n).length = 1 ↔ n < 256 := by
 constructor
 ·
  intro h
  rcases Nat.lt_or_ge n 256 with h1 | h1
  ·
   exact h1
  ·
   rw [lb_big n h1] at h
   have h2 := lb_pos (n / 256)
   rw [List.length_append, List.length_singleton] at h; omega
 ·
  intro h; rw [lb_small n h]; rfl
theorem lb_len_le (k : Nat) : ∀ n : Nat, n < 256 ^ (k + 1) → (lb n).length ≤ k + 1 := by
 induction k with
 | zero => intro n h; rw [lb_small n (by simpa using h)]; simp
 | succ k ih =>
   intro n h
   rcases Nat.lt_or_ge n 256 with h1 | h1
   ·
    rw [lb_small n h1]; simp
   ·
    rw [lb_big n h1]
    have := ih (n / 256) (by rw [Nat.div_lt_iff_lt_mul zz7]; rw [Nat.pow_succ] at h; exact h)
    simp; omega
theorem lenc_len (n : Int) (h0 : 0 ≤ n) (h1 : n ≤ MaxLen) : 1 ≤ (lenc n).length ∧ (lenc n).length ≤ 9 := by
 unfold MaxLen at h1
 unfold lenc
 split
 ·
  simp
 ·
  have := lb_len_le 7 n.toNat zz73
  simp; omega
theorem lenc_bytes (n : Int) (h0 : 0 ≤ n) (h1 : n ≤ MaxLen) : Bytes (lenc n) := by
 unfold MaxLen at h1
 unfold lenc
 split
 ·
  intro b hb; simp at hb; omega
 ·
  have := lb_len_le 7 n.toNat zz73
  intro b hb
  simp only [List.mem_cons] at hb
  rcases hb with hb | hb
  ·
   omega
  ·
   exact lb_bytes _ b hb
theorem lg_lenc (n : Int) (h0 : 0 ≤ n) (h1 : n ≤ MaxLen) (r : List Int) : lg (lenc n ++ r) = (n, (lenc n).length, 0) := by
 unfold lenc
 split
 ·
  rename_i h; simp [lg, h]
 ·
  rename_i h
  have h8 := lb_len_le 7 n.toNat (by unfold MaxLen at h1; simp; omega)
  have hp := lb_pos n.toNat
  have hh := lb_head n.toNat zz7
  have hone := lb_len_one n.toNat
  have hv := lb_val n.toNat
  have hg : (lb n.toNat ++ r).getD 0 0 = (lb n.toNat).getD 0 0 := getD_front _ _ hp
  rw [List.cons_append]
  simp only [lg]
  rw [if_neg zz7, if_neg zz7, if_neg, if_neg zz73]
  ·
   rw [show (128 + ((lb n.toNat).length : Int) - 128).toNat = (lb n.toNat).length by omega, List.take_left, hv, if_neg zz7]
   simp; omega
  ·
   rw [hg]
   rintro ⟨_, h2 | ⟨h2, h3⟩⟩
   ·
    omega
   ·
    have := hone.1 zz7
    rw [lb_small _ this] at h3
    simp at h3; omega
end Go.Proofs.Ytgddaddoabjgiaa.Lenm
namespace Go.Proofs.Ytgddaddoabjgiaa.Hdm
open Idm Lenm
set_option linter.unusedVariables false
def hdenc (c t : Int) (cons : Bool) (n : Int) : List Int := enc c t cons ++ lenc n
def Whole (c t n : Int) : Prop := Valid c t ∧ 0 ≤ n ∧ n ≤ MaxLen
def hg (l : List Int) : Int × Int × Bool × Int × Nat × Int :=
 if (idg l).2.2.2.2 = 0 then
  (if (lg (l.drop (idg l).2.2.2.1)).2.2 = 0 then ((idg l).1, (idg l).2.1, (idg l).2.2.1, (lg (l.drop (idg l).2.2.2.1)).1, (idg l).2.2.2.1 + (lg (l.drop (idg l).2.2.2.1)).2.1, 0)
   else (0, 0, false, 0, (idg l).2.2.2.1 + (lg (l.drop (idg l).2.2.2.1)).2.1, (lg (l.drop (idg l).2.2.2.1)).2.2))
 else (0, 0, false, 0, (idg l).2.2.2.1, (idg l).2.2.2.2)
theorem hdenc_len {c t n : Int} (cons : Bool) (h : Whole c t n) : (hdenc c t cons n).length = (enc c t cons).length + (lenc n).length ∧ 2 ≤ (hdenc c t cons n).length ∧ (hdenc c t cons n).length ≤ 14 := by
 have h1 := enc_len c t cons
 have h2 := lenc_len n h.2.1 h.2.2
 unfold hdenc
 rw [List.length_append]
 omega
theorem hdenc_bytes {c t n : Int} {cons : Bool} (h : Whole c t n) : Bytes (hdenc c t cons n) := by
 intro b hb
 rcases List.mem_append.1 hb with hb | hb
 ·
  exact enc_bytes h.1 b hb
 ·
  exact lenc_bytes n h.2.1 h.2.2 b hb
theorem hg_enc {c t n : Int} (cons : Bool) (h : Whole c t n) (r : List Int) : hg (hdenc c t cons n ++ r) = (c, t, cons, n, (hdenc c t cons n).length, 0) := by
 unfold hg
 have e1 : idg (hdenc c t cons n ++ r) = (c, t, cons, (enc c t cons).length, 0) := by
  unfold hdenc
  rw [List.append_assoc, idg_enc cons h.1]
 have e2 : (hdenc c t cons n ++ r).drop (enc c t cons).length = lenc n ++ r := by
  unfold hdenc
  rw [List.append_assoc, List.drop_left]
 rw [e1]
 simp only [e2, lg_lenc n h.2.1 h.2.2 r, if_true]
 unfold hdenc
 rw [List.length_append]
end Go.Proofs.Ytgddaddoabjgiaa.Hdm
