/- What the row of OrderSorts stands on, made small by a program of this session (pack.py). -/
import Derived.ArgAppend
import Derived.Below
import Derived.BigQuiet
import Derived.Deep.AppendLies
import Derived.Deep.CutBlock
import Derived.Deep.DeepCutAuto
import Derived.Deep.Draws
import Derived.Deep.LoopGhost
import Derived.Deep.OwnRows
import Derived.Deep.QuietTactic
import Derived.Deep.RegionHeld3
import Derived.Deep.RegionLaw
import Derived.Deep.SlicePairs
import Derived.Deep.Strs
import Derived.Great.BuildSlice
import Derived.Ground.Names2Prog
import Derived.KernelRfl
import Derived.Laws.BitsLemmas
import Derived.Laws.BytesArg
import Derived.Laws.CopyRow
import Derived.Laws.IdiomCopy
import Derived.Laws.MakeOwn
import Derived.Laws.OwnMore
import Derived.Laws.Rows
import Derived.Laws.Slices
import Derived.Laws.Tables
import Derived.Lib.AppendStr
import Derived.Lib.Bytes
import Derived.Lib.ConvBytes
import Derived.Maps.AppendAt
import Derived.OrdersHeld
import Derived.Outline
import Derived.OwnWalk
import Derived.RowKit
import Derived.RowKit3
import Derived.Shelf.Slices.Clone
import Derived.SizedLaws
import Derived.Tactics
import Derived.Test.YtpiejdncoeldeaaProg
import Derived.WalkKit
import Derived.WideLaws
import Derived.Test.YtpiejdncoeldeaaCOrderSorts0
import Derived.Test.YtpiejdncoeldeaaCOrderSorts2
namespace Go.Proofs.Ytpiejdncoeldeaa.BRow
open Go.RowKit Go.Proofs.Ytpiejdncoeldeaa.PA Go.Proofs.YtpiejdncoeldeaaW.PrintWords Go.Proofs.YtpiejdncoeldeaaW.PrintLast Go.Proofs.YtpiejdncoeldeaaW.PrintMore
open Go.ChangeShapes Go.WideShapes Go.Deep
set_option linter.unusedVariables false
section
variable {H : Type} {enc : TypeId × Value → H} {P : Program} {W : World} {base : Nat} {spare : Nat → Bool} {held : Bool} {t e : TypeId} {a : Option Addr} {len cap : Nat} {d : DataW H} {ps : List MemPlace} {ts : List TypeId} {ds : List (DataW H)} {j : Nat}
theorem strs_open (hsz : (DataW.weightsEach P ts ds).all (· ≤ reachBytes) = true) (ht : ts[j]? = some t) (hd : ds[j]? = some d) (hu : P.underlying t = some (.slice e)) (he : P.underlying e = some .string) (hc : P.cellsOf e = 1) (hB : P.bytesOf e = 16)
    (h : DataW.Trod enc P W base spare held t (.slice a len cap) d ps) : ∃ l : List ByteArray, l.length = len ∧ Kd.C Kd.string W a l.length l ∧ l.length ≤ cap ∧ l.length * 16 ≤ 140737488351232 := by
  obtain ⟨fuel, hf⟩ := h
  rcases open_strs hu he hc hf with ⟨hcs, _⟩ | ⟨x, l, c, m, Sx, hcs, _, hl, hm, hmm, hx, hcell⟩
  · simp [Value.cells] at hcs
    obtain ⟨rfl, rfl, rfl⟩ := hcs
    exact ⟨[], rfl, ⟨rfl, by decide, fun h => absurd h (by decide)⟩, Nat.le_refl _, by simp⟩
  · simp [Value.cells] at hcs
    obtain ⟨rfl, rfl, rfl⟩ := hcs
    obtain ⟨hx, _⟩ := Prod.mk.inj hx
    subst hx
    have z := sized_slice hsz ht hd hu
    rw [hB] at z
    have hlm : len ≤ m := by rw [hmm]; split <;> omega
    have hcap : cap ≤ 9223372036854775807 := hm
    refine ⟨(List.range len).map Sx, by simp, ⟨by simp, by simp; omega, fun _ => ⟨x, rfl, fun i p hi => ?_⟩⟩, by simpa using hl, ?_⟩
    · rw [List.getElem?_map] at hi
      obtain ⟨q, hq, rfl⟩ := Option.map_eq_some_iff.1 hi
      obtain ⟨hql, hqe⟩ := List.getElem?_eq_some_iff.1 hq
      rw [List.getElem_range] at hqe
      subst hqe
      rw [List.length_range] at hql
      refine ⟨[.string (Sx i)], rfl, rfl, fun k u hu2 => ?_⟩
      cases k with
      | zero =>
        simp at hu2
        subst hu2
        have := (hcell i (by omega)).1
        show W.cell? (x.add (i * 1 + 0)) = _
        simpa using this
      | succ k => simp at hu2
    · simp at z ⊢
      exact Nat.le_trans (Nat.mul_le_mul_right _ (Nat.le_add_right _ _)) z
end
end Go.Proofs.Ytpiejdncoeldeaa.BRow
namespace Go.Proofs.Ytpiejdncoeldeaa.Ord
def Cmp (A B : Nat → Int) (r : Int) : Prop :=
  (r = 0 ∧ ∀ i, A i = B i) ∨ (r = -1 ∧ ∃ i, A i < B i ∧ ∀ j, j < i → A j = B j) ∨ (r = 1 ∧ ∃ i, B i < A i ∧ ∀ j, j < i → A j = B j)
theorem Cmp.swap {A B : Nat → Int} {r : Int} (h : Cmp A B r) : Cmp B A (-r) := by
  rcases h with ⟨rfl, h⟩ | ⟨rfl, i, h1, h2⟩ | ⟨rfl, i, h1, h2⟩
  · exact .inl ⟨rfl, fun i => (h i).symm⟩
  · exact .inr (.inr ⟨rfl, i, h1, fun j hj => (h2 j hj).symm⟩)
  · exact .inr (.inl ⟨rfl, i, h1, fun j hj => (h2 j hj).symm⟩)
theorem less_once {A B : Nat → Int} {i k : Nat} (h1 : A i < B i) (h2 : ∀ j, j < i → A j = B j) (g1 : B k < A k) (g2 : ∀ j, j < k → A j = B j) : False := by
  rcases Nat.lt_trichotomy i k with h | h | h
  · have := g2 i h; omega
  · subst h; omega
  · have := h2 k h; omega
theorem Cmp.uniq {A B : Nat → Int} {r s : Int} (h : Cmp A B r) (g : Cmp A B s) : r = s := by
  rcases h with ⟨rfl, h⟩ | ⟨rfl, i, h1, h2⟩ | ⟨rfl, i, h1, h2⟩ <;> rcases g with ⟨rfl, g⟩ | ⟨rfl, k, g1, g2⟩ | ⟨rfl, k, g1, g2⟩
  · rfl
  · have := h k; omega
  · have := h k; omega
  · have := g i; omega
  · rfl
  · exact (less_once h1 h2 g1 g2).elim
  · have := g i; omega
  · exact (less_once g1 g2 h1 h2).elim
  · rfl
theorem less_trans {A B C : Nat → Int} {i k : Nat} (h1 : A i < B i) (h2 : ∀ j, j < i → A j = B j) (g1 : B k < C k) (g2 : ∀ j, j < k → B j = C j) : ∃ m, A m < C m ∧ ∀ j, j < m → A j = C j := by
  rcases Nat.lt_trichotomy i k with h | h | h
  · exact ⟨i, by have := g2 i h; omega, fun j hj => (h2 j hj).trans (g2 j (by omega))⟩
  · subst h; exact ⟨i, by omega, fun j hj => (h2 j hj).trans (g2 j hj)⟩
  · exact ⟨k, by have := h2 k h; omega, fun j hj => (h2 j (by omega)).trans (g2 j hj)⟩
theorem Cmp.same {A B C : Nat → Int} {y : Int} (h : ∀ i, A i = B i) (g : Cmp B C y) : Cmp A C y := by
  have : A = B := funext h
  rw [this]; exact g
theorem Cmp.third {A B C : Nat → Int} {x y z : Int} (hx : Cmp A B x) (hy : Cmp B C y) (hz : Cmp A C z) : (x > 0 ∨ y > 0 ∨ z ≤ 0) ∧ (x ≠ 0 ∨ y = z) := by
  rcases hx with ⟨rfl, h⟩ | ⟨rfl, i, h1, h2⟩ | ⟨rfl, i, h1, h2⟩
  · have := (Cmp.same h hy).uniq hz
    subst this
    exact ⟨by omega, .inr rfl⟩
  · refine ⟨?_, .inl (by omega)⟩
    rcases hy with ⟨rfl, g⟩ | ⟨rfl, k, g1, g2⟩ | ⟨rfl, k, g1, g2⟩
    · have e : B = C := funext g
      subst e
      have := hz.uniq (.inr (.inl ⟨rfl, i, h1, h2⟩)); omega
    · have := hz.uniq (.inr (.inl ⟨rfl, less_trans h1 h2 g1 g2⟩)); omega
    · omega
  · exact ⟨by omega, .inl (by omega)⟩
theorem Cmp.range {A B : Nat → Int} {r : Int} (h : Cmp A B r) : -1 ≤ r ∧ r ≤ 1 := by
  rcases h with ⟨rfl, _⟩ | ⟨rfl, _⟩ | ⟨rfl, _⟩ <;> omega
theorem Cmp.refl (A : Nat → Int) : Cmp A A 0 := .inl ⟨rfl, fun _ => rfl⟩
def seq (l : List Int) (i : Nat) : Int := l.getD i 0
theorem seq_zero (l : List Int) : seq (l ++ [0]) = seq l := by
  funext i
  unfold seq
  rw [List.getD_eq_getElem?_getD, List.getD_eq_getElem?_getD]
  rcases Nat.lt_trichotomy i l.length with h | h | h
  · rw [List.getElem?_append_left h]
  · subst h; simp
  · rw [List.getElem?_eq_none (by simp; omega), List.getElem?_eq_none (by omega)]
def bl : List Int → List Int → Bool
  | _, [] => false
  | [], _ :: _ => true
  | a :: x, b :: y => decide (a < b) || (a == b && bl x y)
theorem bl_cmp : ∀ (x y : List Int), x.length = y.length → Cmp (seq x) (seq y) (if bl x y = true then -1 else if bl y x = true then 1 else 0)
  | [], [], _ => .inl ⟨by simp [bl], fun _ => rfl⟩
  | a :: x, b :: y, h => by
    have ih := bl_cmp x y (by simpa using h)
    by_cases h1 : a < b
    · rw [if_pos (by simp [bl, h1])]
      exact .inr (.inl ⟨rfl, 0, by simpa [seq] using h1, fun j hj => by omega⟩)
    by_cases h2 : b < a
    · have h3 : ¬ a = b := by omega
      rw [if_neg (by simp [bl, h1, h3]), if_pos (by simp [bl, h2])]
      exact .inr (.inr ⟨rfl, 0, by simpa [seq] using h2, fun j hj => by omega⟩)
    · have h3 : a = b := by omega
      subst h3
      have e1 : bl (a :: x) (a :: y) = bl x y := by simp [bl]
      have e2 : bl (a :: y) (a :: x) = bl y x := by simp [bl]
      rw [e1, e2]
      rcases ih with ⟨hr, g⟩ | ⟨hr, i, g1, g2⟩ | ⟨hr, i, g1, g2⟩
      · exact .inl ⟨hr, fun i => by cases i with
          | zero => rfl
          | succ i => exact g i⟩
      · exact .inr (.inl ⟨hr, i + 1, g1, fun j hj => by cases j with
          | zero => rfl
          | succ j => exact g2 j (by omega)⟩)
      · exact .inr (.inr ⟨hr, i + 1, g1, fun j hj => by cases j with
          | zero => rfl
          | succ j => exact g2 j (by omega)⟩)
  | [], _ :: _, h => by simp at h
  | _ :: _, [], h => by simp at h
end Go.Proofs.Ytpiejdncoeldeaa.Ord
namespace Go.Proofs.Ytpiejdncoeldeaa.Own
open Go.RowKit Go.Proofs.YtpiejdncoeldeaaW.PrintWords Go.Proofs.YtpiejdncoeldeaaW.PrintLast Go.Proofs.YtpiejdncoeldeaaW.PrintMore
set_option linter.unusedVariables false
structure Upd (S : Nat → Prop) (w W : World) : Prop where
  os : W.os = w.os
  tape : W.tape = w.tape
  output : W.output = w.output
  size : w.heap.size ≤ W.heap.size
  block : ∀ k, k < w.heap.size → ¬ S k → W.heap[k]? = w.heap[k]?
def New (w : World) (S : Nat → Prop) : Nat → Prop := fun k => S k ∨ w.heap.size ≤ k
def None0 : Nat → Prop := fun _ => False
section
variable {S S' T : Nat → Prop} {w W W2 : World}
theorem Upd.refl (S : Nat → Prop) (w : World) : Upd S w w := ⟨rfl, rfl, rfl, Nat.le_refl _, fun _ _ _ => rfl⟩
theorem Upd.of_below (h : Below w.heap.size w W) : Upd S w W := ⟨h.os, h.tape, h.output, h.size, fun k hk _ => h.block k hk⟩
theorem Upd.below (h : Upd S w W) (hS : ∀ k, k < w.heap.size → ¬ S k) : Below w.heap.size w W := ⟨h.os, h.tape, h.output, h.size, fun k hk => h.block k hk (hS k hk)⟩
theorem Upd.below0 (h : Upd None0 w W) : Below w.heap.size w W := h.below (fun _ _ h => h)
theorem Upd.mono (h : Upd S w W) (hs : ∀ k, S k → S' k) : Upd S' w W := ⟨h.os, h.tape, h.output, h.size, fun k hk hn => h.block k hk (fun e => hn (hs k e))⟩
theorem Upd.trans (h : Upd S w W) (k : Upd T W W2) (hT : ∀ k, T k → S k ∨ w.heap.size ≤ k) : Upd S w W2 :=
  ⟨k.os.trans h.os, k.tape.trans h.tape, k.output.trans h.output, Nat.le_trans h.size k.size, fun i hi hn => (k.block i (Nat.lt_of_lt_of_le hi h.size) (fun e => (hT i e).elim hn (fun e2 => by omega))).trans (h.block i hi hn)⟩
theorem Upd.alloc (h : Upd S w W) (o : Obj) : Upd S w (W.alloc o) := h.trans (Upd.of_below (S := None0) (below_alloc (Below.refl _ _) o)) (fun _ e => e.elim)
theorem Upd.drew (h : Upd S w W) : Upd S w W.drew := ⟨h.os, h.tape, h.output, h.size, h.block⟩
theorem Upd.drewN (h : Upd S w W) (n : Nat) : Upd S w (W.drewN n) := ⟨h.os, h.tape, h.output, h.size, h.block⟩
theorem Upd.setCell (h : Upd S w W) {g j : Nat} (hg : S g ∨ w.heap.size ≤ g) (v : Value) : Upd S w (W.setCell ⟨g, j, none⟩ v) :=
  ⟨h.os, h.tape, h.output, by simpa [World.setCell] using h.size, fun k hk hn => (Below.heap_setCell W ⟨g, j, none⟩ v k (fun e => by
    have e : k = g := e
    subst e
    exact hg.elim hn (fun e2 => by omega))).trans (h.block k hk hn)⟩
theorem Upd.grown {row : Option Nat} (hg : W.grownBy W2 row) (hr : ∀ k, row = some k → S k) : Upd S W W2 := ⟨hg.os, hg.tape, hg.output, hg.size, fun k hk hn => hg.block k hk (fun e => hn (hr k e.symm))⟩
theorem Upd.blk (h : Upd S w W) {g : Nat} {o : Obj} (hb : w.heap[g]? = some o) (hg : ¬ S g) : W.heap[g]? = some o := (h.block g (blk_lt hb) hg).trans hb
theorem Upd.step (h : Upd S w W) (hT : ∀ k, T k → ¬ S k) : ∀ k, T k → k < w.heap.size → W.heap[k]? = w.heap[k]? := fun k hk hlt => h.block k hlt (hT k hk)
theorem New.old {k : Nat} (h : S k) : New w S k := .inl h
theorem New.mono (hs : ∀ k, S k → S' k) : ∀ k, New w S k → New w S' k := fun k h => h.imp (hs k) id
end
section
variable {α : Type} {d : Kd α} {e : Nat} {w W : World} {S T S' : Nat → Prop} {v : Value} {xs : List α}
theorem row_upd (h : d.R e w 0 T v xs) (hu : Upd S w W) (hd : ∀ k, T k → ¬ S k) : d.R e W 0 T v xs := Kd.R_step h (hu.step hd)
theorem row_mono (h : d.R e w 0 T v xs) (hs : ∀ k, T k → S k) : d.R e w 0 S v xs := Kd.R_mono h hs
def BlkT (w : World) (g t : Nat) : Prop := ∃ cs, w.heap[g]? = some (.cells cs t (0, 0))
theorem BlkT.set {g t : Nat} (h : BlkT w g t) (i : Nat) (u : Value) : BlkT (w.setCell ⟨g, i, none⟩ u) g t := by
  obtain ⟨cs, h⟩ := h
  exact ⟨_, blk_set h i u⟩
theorem BlkT.drew {g t : Nat} (h : BlkT w g t) : BlkT w.drew g t := h
theorem row_at (h : d.R e w 0 T v xs) {k : Nat} (hk : some k = v.ownBlock) : T k := h.1 k hk.symm
theorem row_old (h : d.R e w 0 T v xs) : d.R e w 0 (fun k => T k ∧ k < w.heap.size) v xs := Kd.R_mono (Kd.R_bound h) (fun k hk => ⟨hk.1, hk.2.2.1⟩)
end
def Bnd (w : World) (E : List Nat) (S : Nat → Prop) : Nat → Prop := fun k => S k ∧ k < w.heap.size ∧ ∃ q, q ∈ E ∧ ∃ cells, w.heap[k]? = some (.cells cells q (0, 0))
theorem Bnd.row {α : Type} {d : Kd α} {e : Nat} {T : Nat → Prop} {v : Value} {xs : List α} {w : World} {E : List Nat} (h : d.R e w 0 T v xs) (hE : ∀ q, q ∈ e :: d.E → q ∈ E) : d.R e w 0 (Bnd w E T) v xs :=
  Kd.R_mono (Kd.R_bound h) (fun k hk => ⟨hk.1, hk.2.2.1, by obtain ⟨q, hq, hc⟩ := hk.2.2.2; exact ⟨q, hE q hq, hc⟩⟩)
theorem Bnd.blk {w : World} {E : List Nat} {S : Nat → Prop} {g t : Nat} {cs : Array Value} (hg : S g) (hb : w.heap[g]? = some (.cells cs t (0, 0))) (ht : t ∈ E) : Bnd w E S g := ⟨hg, blk_lt hb, t, ht, cs, hb⟩
theorem Bnd.mono {w : World} {E E' : List Nat} {S S' : Nat → Prop} (hs : ∀ k, S k → S' k) (hE : ∀ q, q ∈ E → q ∈ E') : ∀ k, Bnd w E S k → Bnd w E' S' k := fun k h => ⟨hs k h.1, h.2.1, by obtain ⟨q, hq, hc⟩ := h.2.2; exact ⟨q, hE q hq, hc⟩⟩
section
variable {P : Program} {ops : Array Oper} {rest : List Oper} {o : Oper} {a : Act} {Q : Exit → Act → World → Prop} {α : Type}
theorem row_append (d : Kd α) {W : World} {S : Nat → Prop} (hgd : o.guard = none) (s x : Operand) (t e : TypeId) (z : Value) (bytes : Nat)
    (ho : o.op = .call { callee := .builtin .append, args := #[s, x], argTypes := #[t, t] })
    (ht : P.underlying t = some (.slice e)) (hinfo : (P.info? e).map (fun i => (i.zero, i.size, i.bytes)) = some (some z, d.sz, bytes)) (hz : z.cells.size = d.sz) (hs0 : 0 < d.sz) (hb0 : 0 < bytes)
    (v : Value) (xs : List α) (p : α) (cs : List Value) (hs : a.eval s = v) (hx : a.eval x = .slice (some ⟨W.heap.size, 0, none⟩) 1 1) (hp : d.M W 0 (fun _ => False) p cs)
    (HO : d.R e W 0 S v xs) (hl : (xs.length + 1) * bytes ≤ 140737488355328) (ys : List α) (hy : xs ++ [p] = ys)
    (h : ∀ v1 w1, d.R e w1 0 (New W S) v1 ys → Upd (fun k => some k = v.ownBlock) W w1 → wpList P ops Q rest (a.put o.dst v1) w1) :
    wpList P ops Q (o :: rest) a (W.alloc (.cells cs.toArray e)) := by
  refine Kd.R_append d (w0 := W) 0 hgd s x t e z bytes ho ht hinfo hz hs0 hb0 v xs p cs (New W S) (fun _ => False) hs hx hp (fun _ h => h.elim) (fun k hk => .inr hk) (row_mono HO (fun _ h => .inl h)) ⟨rfl, rfl, rfl, Nat.le_refl _, fun _ _ => rfl⟩ (Nat.zero_le _) hl ?_
  intro v1 w1 h1 _ hg hat
  subst hy
  exact h v1 w1 h1 (Upd.grown hg (fun k hk => hk.symm))
end
section
variable {P : Program} {ops : Array Oper} {o : Oper} {a : Act} {Q : Exit → Act → World → Prop} {Kc : Act → World → Prop} {α : Type}
end
section
variable {P : Program} {ops : Array Oper} {rest : List Oper} {o : Oper} {a : Act} {Q : Exit → Act → World → Prop} {α : Type}
theorem row_lit (d : Kd α) {W : World} (e : Nat) (hgd : o.guard = none) {N : Tmp} (hd : o.dst = some N) {xs : List α} {inner : List Value}
    (hrun : (execOp a.eval o).run P W = .ok (.value (.slice (some ⟨W.heap.size, 0, none⟩) xs.length xs.length)) (W.alloc (.cells inner.toArray e)))
    (hrep : Reps (d.M W 0 (fun _ => False)) d.sz xs inner) (hm : xs.length ≤ 9223372036854775807)
    (h : ∀ v1 w1, d.R e w1 0 (New W None0) v1 xs → Upd None0 W w1 → wpList P ops Q rest (a.put o.dst v1) w1) : wpList P ops Q (o :: rest) a W := by
  refine Kd.R_lit d (w0 := W) 0 e hgd hd (ok := New W None0) hrun hrep (fun _ h => h.elim) (.inr (Nat.le_refl _)) ⟨rfl, rfl, rfl, Nat.le_refl _, fun _ _ => rfl⟩ (Nat.zero_le _) hm ?_
  intro v1 w1 h1 _ hg _
  exact h v1 w1 h1 (Upd.grown hg (fun k hk => by cases hk))
theorem row_append_rows (d : Kd α) {W : World} {S : Nat → Prop} (hgd : o.guard = none) (s x : Operand) (t e : TypeId) (z : Value) (bytes : Nat)
    (ho : o.op = .call { callee := .builtin .append, args := #[s, x], argTypes := #[t, t] })
    (ht : P.underlying t = some (.slice e)) (hinfo : (P.info? e).map (fun i => (i.zero, i.size, i.bytes)) = some (some z, d.sz, bytes)) (hz : z.cells.size = d.sz) (hs0 : 0 < d.sz) (hb0 : 0 < bytes)
    (v : Value) (xs ys : List α) (A : Option Addr) (m c : Nat) (hs : a.eval s = v) (hx : a.eval x = .slice A m c)
    (HO : d.R e W 0 S v xs) (HR : d.C W A m ys) (hKM : ∀ x cs, d.K W x cs → d.M W 0 (fun _ => False) x cs) (hl : (xs.length + m) * bytes ≤ 140737488355328)
    (zs : List α) (hy : xs ++ ys = zs) (h : ∀ v1 w1, d.R e w1 0 (New W S) v1 zs → Upd (fun k => some k = v.ownBlock) W w1 → wpList P ops Q rest (a.put o.dst v1) w1) :
    wpList P ops Q (o :: rest) a W := by
  refine Kd.R_append_rows d (Rr := d.K W) (w0 := W) 0 hgd s x t e z bytes ho ht hinfo hz hs0 hb0 v xs ys A m c (New W S) (fun _ => False) hs hx (row_mono HO (fun _ h => .inl h)) HR hKM (fun _ h => h.elim) (fun k hk => .inr hk) ⟨rfl, rfl, rfl, Nat.le_refl _, fun _ _ => rfl⟩ (Nat.zero_le _) hl ?_
  intro v1 w1 h1 _ hg hat
  subst hy
  exact h v1 w1 h1 (Upd.grown hg (fun k hk => hk.symm))
end
section
variable {P : Program} {ops : Array Oper} {rest : List Oper} {o : Oper} {a : Act} {Q : Exit → Act → World → Prop}
theorem upd_setRow (W : World) (g : Nat) (cs : Array Value) : Upd (fun k => k = g) W (W.setRow g cs) := ⟨rfl, rfl, rfl, by simp [World.setRow], fun k _ hk => setRow_other W g k cs hk⟩
theorem cellput {W : World} (hgd : o.guard = none) (ty : TypeId) (x y : Operand) (ho : o.op = .store ty x y) (hd : o.dst = none) (g i : Nat) (v : Value) (hx : a.eval x = .pointer (some ⟨g, i, none⟩)) (hy : a.eval y = v)
    (t : TypeId) (old new : Array Value) (hg : W.heap[g]? = some (.cells old t (0, 0))) (hi : (P.info? ty).map (·.size) = some 1) (hlt : i < old.size) (h1 : v.oneCell' = true) (hn : old.setIfInBounds i v = new)
    (h : ∀ w', w'.heap[g]? = some (.cells new t (0, 0)) → Upd (fun k => k = g) W w' → wpList P ops Q rest a w') : wpList P ops Q (o :: rest) a W := by
  refine wpList_plain hgd fun K hK => ?_
  have hcell : W.cell? ⟨g, i, none⟩ = some old[i] := by rw [cell_of_row W g i old t (0, 0) hg, Array.getElem?_eq_getElem hlt]
  have hfro : W.frozen? ⟨g, i, none⟩ = false := frozen_of_row W g i old t hg
  have hadd : (⟨g, i, none⟩ : Addr).add 0 = ⟨g, i, none⟩ := rfl
  have hst : (store ((⟨g, i, none⟩ : Addr).add 0) v).run P W = .ok () (W.setCell ⟨g, i, none⟩ v) := by
    rw [hadd, run_store P W _ v _ h1, hcell]
    simp [hfro]
  have hc : v.cells = #[v] := by cases v <;> first | rfl | cases h1
  have hsv : (storeVar ty ⟨g, i, none⟩ v).run P W = .ok () (W.setCell ⟨g, i, none⟩ v) := by
    cases hq : P.info? ty with
    | none => simp [hq] at hi
    | some j =>
      have hs : j.size = 1 := by simpa [hq] using hi
      simp [storeVar, sizeOf, typeInfo, hq, hc, hs, storeCells, hst]
  unfold Oper.wp execOp
  simp only [ho, hx, hy, Instr.storeAt, Instr.sureAddr, Sem.run_bind, Sem.run_pure, Result.andThen_ok, hsv]
  refine hK _ _ ?_
  have e : a.put o.dst undef = a := by rw [hd]; rfl
  rw [e]
  refine h _ (blk_put hg i v hn) ?_
  rw [setCell_eq_setRow W g i old t (0, 0) v hg]
  exact upd_setRow W g _
theorem boxnew {W : World} (hgd : o.guard = none) {N : Tmp} (hd : o.dst = some N) {cs : Array Value} {t : TypeId}
    (hrun : (execOp a.eval o).run P W = .ok (.value (.pointer (some ⟨W.heap.size, 0, none⟩))) (W.alloc (.cells cs t (0, 0))))
    (h : ∀ g, W.heap.size ≤ g → ∀ w1, w1.heap[g]? = some (.cells cs t (0, 0)) → Upd None0 W w1 → wpList P ops Q rest (a.put o.dst (.pointer (some ⟨g, 0, none⟩))) w1) : wpList P ops Q (o :: rest) a W :=
  box_event hgd hd hrun (fun g hg w1 hb hl => h g (by omega) w1 hb (Upd.of_below hl))
end
abbrev Lt (a b : World) : Prop := Nonempty (PLift (Upd None0 a b))
theorem Lt.u {a b : World} (h : Lt a b) : Upd None0 a b := h.elim (fun q => q.down)
instance lt_refl (a : World) : Lt a a := ⟨⟨Upd.refl _ a⟩⟩
instance lt_drew (a b : World) [h : Lt a b] : Lt a b.drew := ⟨⟨(Lt.u h).drew⟩⟩
instance lt_drewN (a b : World) (n : Nat) [h : Lt a b] : Lt a (b.drewN n) := ⟨⟨(Lt.u h).drewN n⟩⟩
instance lt_alloc (a b : World) (o : Obj) [h : Lt a b] : Lt a (b.alloc o) := ⟨⟨(Lt.u h).alloc o⟩⟩
theorem lu {a b : World} [h : Lt a b] : Upd None0 a b := Lt.u h
theorem bl {a b : World} [h : Lt a b] {g : Nat} {o : Obj} (hb : Aside0 (a.heap[g]? = some o)) : b.heap[g]? = some o := (Lt.u h).blk hb.out (fun h => h)
end Go.Proofs.Ytpiejdncoeldeaa.Own
namespace Go.Proofs.Ytpiejdncoeldeaa.Sl
open Go.RowKit Go.Proofs.YtpiejdncoeldeaaW.PrintWords Go.Proofs.YtpiejdncoeldeaaW.PrintLast Go.Proofs.YtpiejdncoeldeaaW.PrintMore Go.Proofs.Ytpiejdncoeldeaa.Own
set_option linter.unusedVariables false
structure Ast where
  P : World → (Nat → Prop) → Prop
  up : ∀ {w W : World} {S T : Nat → Prop}, P w S → Upd T w W → (∀ k, S k → ¬ T k) → P W S
  mo : ∀ {w : World} {S S' : Nat → Prop}, P w S → (∀ k, S k → S' k) → P w S'
  old : ∀ {w : World} {S : Nat → Prop}, P w S → P w (fun k => S k ∧ k < w.heap.size)
def Hs (w : World) (S : Nat → Prop) (l : List Ast) : Prop :=
  ∃ own : Nat → Nat, (∀ k, own k ≠ 0 → S k) ∧ ∀ (i : Nat) (a : Ast), l[i]? = some a → a.P w (fun k => own k = i + 1)
theorem Hs.up {w W : World} {S T : Nat → Prop} {l : List Ast} (h : Hs w S l) (hu : Upd T w W) (hd : ∀ k, S k → ¬ T k) : Hs W S l := by
  obtain ⟨own, h1, h2⟩ := h
  exact ⟨own, h1, fun i a ha => a.up (h2 i a ha) hu (fun k hk => hd k (h1 k (by omega)))⟩
theorem Hs.mo {w : World} {S S' : Nat → Prop} {l : List Ast} (h : Hs w S l) (hs : ∀ k, S k → S' k) : Hs w S' l := by
  obtain ⟨own, h1, h2⟩ := h
  exact ⟨own, fun k hk => hs k (h1 k hk), h2⟩
open Classical in
theorem Hs.old {w : World} {S : Nat → Prop} {l : List Ast} (h : Hs w S l) : Hs w (fun k => S k ∧ k < w.heap.size) l := by
  obtain ⟨own, h1, h2⟩ := h
  refine ⟨fun k => if k < w.heap.size then own k else 0, fun k hk => ?_, fun i a ha => a.mo (a.old (h2 i a ha)) (fun k hk => ?_)⟩
  · dsimp only at hk
    by_cases hlt : k < w.heap.size
    · rw [if_pos hlt] at hk; exact ⟨h1 k hk, hlt⟩
    · rw [if_neg hlt] at hk; exact absurd rfl hk
  · exact (if_pos hk.2).trans hk.1
def blk (g : Nat) (cs : Array Value) (t : Nat) : Ast where
  P w S := S g ∧ w.heap[g]? = some (.cells cs t (0, 0))
  up h hu hd := ⟨h.1, hu.blk h.2 (hd g h.1)⟩
  mo h hs := ⟨hs g h.1, h.2⟩
  old h := ⟨⟨h.1, blk_lt h.2⟩, h.2⟩
def row {α : Type} (d : Kd α) (e : Nat) (v : Value) (xs : List α) : Ast where
  P w S := d.R e w 0 S v xs
  up h hu hd := row_upd h hu hd
  mo h hs := row_mono h hs
  old h := row_old h
def ex {α : Type} (f : α → Ast) : Ast where
  P w S := ∃ a, (f a).P w S
  up h hu hd := h.elim fun a h => ⟨a, (f a).up h hu hd⟩
  mo h hs := h.elim fun a h => ⟨a, (f a).mo h hs⟩
  old h := h.elim fun a h => ⟨a, (f a).old h⟩
def sep (l : List Ast) : Ast where
  P w S := Hs w S l
  up h hu hd := h.up hu hd
  mo h hs := h.mo hs
  old h := h.old
structure Sp (w0 : World) (S0 : Nat → Prop) (l : List Ast) (w : World) : Prop where
  u : Upd S0 w0 w
  h : Hs w (New w0 S0) l
section
variable {w0 w W w2 : World} {S0 S : Nat → Prop} {l l1 l2 l3 : List Ast} {a : Ast}
theorem Sp.start (h : Hs w S l) : Sp w S l w := ⟨Upd.refl _ _, h.mo (fun _ h => .inl h)⟩
theorem Sp.nil : Sp w S [] w := Sp.start ⟨fun _ => 0, fun k h => absurd rfl h, fun i a h => by simp at h⟩
theorem Sp.to (h : Sp w0 S0 l w) (hu : Upd None0 w W) : Sp w0 S0 l W := ⟨h.u.trans hu (fun _ h => h.elim), h.h.up hu (fun _ _ h => h)⟩
theorem Sp.lt [hl : Lt w W] (h : Sp w0 S0 l w) : Sp w0 S0 l W := h.to (Lt.u hl)
theorem Hs.sel (h : Hs w S l) (ix : List Nat) (hn : ix.Nodup) (he : ix.map (l[·]?) = l2.map some) : Hs w S l2 := by
  obtain ⟨own, h1, h2⟩ := h
  refine ⟨fun k => if own k = 0 then 0 else (ix.idxOf (own k - 1) + 1) % (ix.length + 1), fun k hk => h1 k (fun h0 => hk (if_pos h0)), fun i a ha => ?_⟩
  have hlen : ix.length = l2.length := by have := congrArg List.length he; simpa using this
  have hi : i < l2.length := (List.getElem?_eq_some_iff.1 ha).1
  have hix : i < ix.length := by omega
  have he2 : l[ix[i]]? = some a := by
    have := congrArg (fun q => q[i]?) he
    simp [hix, ha] at this
    exact this
  refine a.mo (h2 _ a he2) (fun k hk => ?_)
  have h3 : ix.idxOf (ix[i]) = i := hn.idxOf_getElem i hix
  show (if own k = 0 then 0 else (ix.idxOf (own k - 1) + 1) % (ix.length + 1)) = i + 1
  rw [if_neg (by omega), hk, Nat.add_sub_cancel, h3, Nat.mod_eq_of_lt (by omega)]
theorem Sp.sel (h : Sp w0 S0 l w) (ix : List Nat) (he : ix.map (l[·]?) = l2.map some := by rfl) (hn : ix.Nodup := by decide) : Sp w0 S0 l2 w := ⟨h.u, h.h.sel ix hn he⟩
theorem Hs.set (h : Hs w S l) (i : Nat) (a b : Ast) (hi : l[i]? = some a) (hf : ∀ T, a.P w T → b.P w T) : Hs w S (l.set i b) := by
  obtain ⟨own, h1, h2⟩ := h
  refine ⟨own, h1, fun j c hc => ?_⟩
  rw [List.getElem?_set] at hc
  split at hc
  · rename_i hij
    subst hij
    split at hc
    · cases hc; exact hf _ (h2 _ a hi)
    · cases hc
  · exact h2 j c hc
theorem Hs.get (h : Hs w S l) (i : Nat) (a : Ast) (hi : l[i]? = some a) : a.P w S := by
  obtain ⟨own, h1, h2⟩ := h
  exact a.mo (h2 i a hi) (fun k hk => h1 k (by omega))
theorem Hs.ex0 {α : Type} {f : α → Ast} (h : Hs w S (ex f :: l)) : ∃ x, Hs w S (f x :: l) := by
  obtain ⟨own, h1, h2⟩ := h
  obtain ⟨x, hx⟩ := h2 0 _ rfl
  refine ⟨x, own, h1, fun j c hc => ?_⟩
  cases j with
  | zero => cases hc; exact hx
  | succ j => exact h2 (j + 1) c hc
theorem Hs.exI {α : Type} {f : α → Ast} (x : α) (h : Hs w S (f x :: l)) : Hs w S (ex f :: l) := h.set 0 (f x) (ex f) rfl (fun T hT => ⟨x, hT⟩)
open Classical in
theorem Hs.flat (h : Hs w S (sep l1 :: l)) : Hs w S (l1 ++ l) := by
  obtain ⟨own, h1, h2⟩ := h
  obtain ⟨o2, h3, h4⟩ := h2 0 _ rfl
  refine ⟨fun k => if own k = 0 then 0 else if own k = 1 then (if o2 k ≤ l1.length then o2 k else 0) else own k - 1 + l1.length, fun k hk => h1 k (fun h0 => hk (if_pos h0)), fun i a ha => ?_⟩
  by_cases hi : i < l1.length
  · rw [List.getElem?_append_left hi] at ha
    refine a.mo (h4 i a ha) (fun k hk => ?_)
    have h5 : own k = 1 := h3 k (by omega)
    show (if own k = 0 then 0 else _) = _
    rw [if_neg (by omega), if_pos h5, hk, if_pos (by omega)]
  · rw [List.getElem?_append_right (by omega)] at ha
    refine a.mo (h2 (i - l1.length + 1) a (by simpa using ha)) (fun k hk => ?_)
    show (if own k = 0 then 0 else _) = _
    rw [if_neg (by omega), if_neg (by omega), hk]; omega
theorem Hs.fold (l1 : List Ast) (h : Hs w S (l1 ++ l)) : Hs w S (sep l1 :: l) := by
  obtain ⟨own, h1, h2⟩ := h
  refine ⟨fun k => if own k = 0 then 0 else if own k ≤ l1.length then 1 else own k - l1.length + 1, fun k hk => h1 k (fun h0 => hk (if_pos h0)), fun i a ha => ?_⟩
  cases i with
  | zero =>
    cases ha
    refine ⟨fun k => if own k ≤ l1.length then own k else 0, fun k hk => ?_, fun j b hb => ?_⟩
    · show (if own k = 0 then 0 else _) = _
      dsimp only at hk
      by_cases h5 : own k ≤ l1.length
      · rw [if_pos h5] at hk; rw [if_neg hk, if_pos h5]
      · rw [if_neg h5] at hk; exact absurd rfl hk
    · have hj := (List.getElem?_eq_some_iff.1 hb).1
      refine b.mo (h2 j b (by rw [List.getElem?_append_left hj]; exact hb)) (fun k hk => ?_)
      show (if own k ≤ l1.length then own k else 0) = _
      rw [if_pos (by omega), hk]
  | succ i =>
    refine a.mo (h2 (i + l1.length) a (by rw [List.getElem?_append_right (by omega)]; simpa using ha)) (fun k hk => ?_)
    show (if own k = 0 then 0 else _) = _
    rw [if_neg (by omega), if_neg (by omega), hk]; omega
theorem Sp.ex0 {α : Type} {f : α → Ast} (h : Sp w0 S0 (ex f :: l) w) : ∃ x, Sp w0 S0 (f x :: l) w := h.h.ex0.elim fun x hx => ⟨x, h.u, hx⟩
theorem Sp.exI {α : Type} {f : α → Ast} (x : α) (h : Sp w0 S0 (f x :: l) w) : Sp w0 S0 (ex f :: l) w := ⟨h.u, h.h.exI x⟩
theorem Sp.flat (h : Sp w0 S0 (sep l1 :: l) w) : Sp w0 S0 (l1 ++ l) w := ⟨h.u, h.h.flat⟩
theorem Sp.fold (l1 : List Ast) (h : Sp w0 S0 (l1 ++ l) w) : Sp w0 S0 (sep l1 :: l) w := ⟨h.u, h.h.fold l1⟩
theorem Sp.turn (h : Sp w0 S0 l w) (i : Nat) (a b : Ast) (hi : l[i]? = some a) (hf : ∀ T, a.P w T → b.P w T) : Sp w0 S0 (l.set i b) w := ⟨h.u, h.h.set i a b hi hf⟩
theorem Sp.swap {b : Ast} (h : Sp w0 S0 (a :: b :: l) w) : Sp w0 S0 (b :: a :: l) w := by
  obtain ⟨u, own, h1, h2⟩ := h
  refine ⟨u, fun k => if own k = 1 then 2 else if own k = 2 then 1 else own k, fun k hk => h1 k (fun e => ?_), fun i c hc => ?_⟩
  · dsimp only at hk
    rw [if_neg (by omega), if_neg (by omega)] at hk; exact hk e
  · match i with
    | 0 => exact c.mo (h2 1 c hc) (fun k hk => by show (if own k = 1 then 2 else if own k = 2 then 1 else own k) = 1; rw [if_neg (by omega), if_pos hk])
    | 1 => exact c.mo (h2 0 c hc) (fun k hk => by show (if own k = 1 then 2 else if own k = 2 then 1 else own k) = 2; rw [if_pos hk])
    | i + 2 => exact c.mo (h2 (i + 2) c hc) (fun k hk => by show (if own k = 1 then 2 else if own k = 2 then 1 else own k) = i + 2 + 1; rw [if_neg (by omega), if_neg (by omega), hk])
noncomputable def Sp.ft (h : Sp w0 S0 l w) (n : Nat) : Nat → Prop := fun k => h.h.choose k ≠ 0 ∧ h.h.choose k ≤ n
theorem Sp.pre [hl : Lt w W] (h : Sp w0 S0 l w) (n : Nat) (he : l.take n = l1 := by rfl) : Hs W (h.ft n) l1 := by
  subst he
  refine (show Hs w (h.ft n) (l.take n) from ?_).up (Lt.u hl) (fun _ _ h => h)
  refine ⟨fun k => if h.h.choose k ≤ n then h.h.choose k else 0, fun k hk => ?_, fun i a ha => ?_⟩
  · dsimp only at hk
    by_cases h5 : h.h.choose k ≤ n
    · rw [if_pos h5] at hk; exact ⟨hk, h5⟩
    · rw [if_neg h5] at hk; exact absurd rfl hk
  · obtain ⟨hi, hv⟩ := List.getElem?_eq_some_iff.1 ha
    rw [List.length_take] at hi
    refine a.mo (h.h.choose_spec.2 i a (by rw [List.getElem?_take, if_pos (by omega)] at ha; exact ha)) (fun k hk => ?_)
    show (if h.h.choose k ≤ n then h.h.choose k else 0) = _
    rw [hk, if_pos (by omega)]
open Classical in
theorem Sp.post [hl : Lt w W] (h : Sp w0 S0 l w) (n : Nat) (hq : Sp W (h.ft n) l2 w2) (he : l.drop n = l3 := by rfl) : Sp w0 S0 (l2 ++ l3) w2 := by
  subst he
  have hs := h.h.choose_spec
  have hwW : w.heap.size ≤ W.heap.size := (Lt.u hl).size
  refine ⟨h.u.trans (((Lt.u hl).mono (S' := h.ft n) (fun _ h => h.elim)).trans hq.u (fun k hk => .inl hk)) (fun k hk => hs.1 k hk.1), ?_⟩
  obtain ⟨o2, h1, h2⟩ := hq.h
  refine ⟨fun k => if o2 k ≠ 0 then (if o2 k ≤ l2.length then o2 k else 0) else if n < h.h.choose k ∧ k < w.heap.size then h.h.choose k - n + l2.length else 0, fun k hk => ?_, fun i a ha => ?_⟩
  · dsimp only at hk
    by_cases h5 : o2 k ≠ 0
    · exact (h1 k h5).elim (fun h6 => hs.1 k h6.1) (fun h6 => .inr (Nat.le_trans h.u.size (Nat.le_trans hwW h6)))
    · rw [if_neg h5] at hk
      split at hk
      · rename_i h6; exact hs.1 k (by omega)
      · exact absurd rfl hk
  · by_cases hi : i < l2.length
    · rw [List.getElem?_append_left hi] at ha
      refine a.mo (h2 i a ha) (fun k hk => ?_)
      show (if o2 k ≠ 0 then _ else _) = _
      rw [if_pos (by omega), if_pos (by omega), hk]
    · rw [List.getElem?_append_right (by omega)] at ha
      have h3 := a.old (hs.2 (i - l2.length + n) a (by rw [List.getElem?_drop] at ha; rw [Nat.add_comm]; exact ha))
      have h4 := a.up (a.up h3 (Lt.u hl) (fun _ _ h => h)) hq.u (fun k hk hf => by have := hf.2; have := hk.1; omega)
      refine a.mo h4 (fun k hk => ?_)
      have hk1 := hk.1
      have hk2 := hk.2
      have h5 : ¬ o2 k ≠ 0 := fun h5 => by
        rcases h1 k h5 with h6 | h6
        · have := h6.2; omega
        · omega
      show (if o2 k ≠ 0 then _ else _) = _
      rw [if_neg h5, if_pos (by omega), hk1]
      omega
theorem Sp.pre1 [hl : Lt w W] (h : Sp w0 S0 (a :: l) w) : Hs W (h.ft 1) [a] := h.pre 1
theorem Sp.post1 [hl : Lt w W] {b : Ast} (h : Sp w0 S0 (a :: l) w) (hq : Sp W (h.ft 1) [b] w2) : Sp w0 S0 (b :: l) w2 := h.post 1 hq
theorem Sp.post0 [hl : Lt w W] {b : Ast} (h : Sp w0 S0 l w) (hq : Sp W (h.ft 0) [b] w2) : Sp w0 S0 (b :: l) w2 := h.post 0 hq
theorem Sp.mo {S' : Nat → Prop} (h : Sp w0 S0 l w) (hs : ∀ k, S0 k → S' k) : Sp w0 S' l w := ⟨h.u.mono hs, h.h.mo (New.mono hs)⟩
theorem Sp.toN [hl : Lt w W] (h : Sp w0 S0 l w) (hu : Upd None0 W w2) : Sp w0 S0 l w2 := (h.lt (W := W)).to hu
theorem Sp.blk {g t : Nat} {cs : Array Value} (h : Sp w0 S0 l w) (i : Nat) (hi : l[i]? = some (blk g cs t) := by rfl) : w.heap[g]? = some (.cells cs t (0, 0)) := (h.h.get i _ hi).2
theorem Sp.blkW [hl : Lt w W] {g t : Nat} {cs : Array Value} (h : Sp w0 S0 l w) (i : Nat) (hi : l[i]? = some (Sl.blk g cs t) := by rfl) : W.heap[g]? = some (.cells cs t (0, 0)) := (Lt.u hl).blk (h.blk i hi) (fun h => h)
theorem Sp.row {α : Type} {d : Kd α} {e : Nat} {v : Value} {xs : List α} (h : Sp w0 S0 l w) (i : Nat) (hi : l[i]? = some (row d e v xs) := by rfl) : d.R e w 0 (New w0 S0) v xs := h.h.get i _ hi
theorem Sp.cell {g t : Nat} {cs : Array Value} (h : Sp w0 S0 l w) (i j : Nat) (v : Value) (hi : l[i]? = some (Sl.blk g cs t) := by rfl) (hv : cs[j]? = some v := by rfl) : w.cell? ⟨g, j, none⟩ = some v := (blk_cell (h.blk i hi) j).trans hv
theorem Sp.fz {g t : Nat} {cs : Array Value} (h : Sp w0 S0 l w) (i : Nat) (hi : l[i]? = some (Sl.blk g cs t) := by rfl) : ∀ j, w.frozen? ⟨g, j, none⟩ = false := fun j => blk_frozen (h.blk i hi) j
theorem Sp.cells5 {g t : Nat} {a0 a1 a2 a3 a4 : Value} (h : Sp w0 S0 l w) (i : Nat) (hi : l[i]? = some (Sl.blk g #[a0, a1, a2, a3, a4] t) := by rfl) : w.cell? ⟨g, 0, none⟩ = some a0 ∧ w.cell? ⟨g, 1, none⟩ = some a1 ∧ w.cell? ⟨g, 2, none⟩ = some a2 ∧ w.cell? ⟨g, 3, none⟩ = some a3 ∧ w.cell? ⟨g, 4, none⟩ = some a4 := ⟨h.cell i 0 _ hi, h.cell i 1 _ hi, h.cell i 2 _ hi, h.cell i 3 _ hi, h.cell i 4 _ hi⟩
theorem Sp.put_ {g t : Nat} {cs cs' : Array Value} (h : Sp w0 S0 l w) (i : Nat) (hi : l[i]? = some (Sl.blk g cs t)) (hu : Upd (fun k => k = g) w W) (hb : W.heap[g]? = some (.cells cs' t (0, 0))) : Sp w0 S0 (l.set i (Sl.blk g cs' t)) W := by
  obtain ⟨u, own, h1, h2⟩ := h
  have hg := (h2 i _ hi).1
  refine ⟨u.trans hu (fun k hk => ?_), own, h1, fun j a ha => ?_⟩
  · rw [hk]; exact h1 g (by show own g ≠ 0; have : own g = i + 1 := hg; omega)
  · rw [List.getElem?_set] at ha
    split at ha
    · rename_i hij
      subst hij
      split at ha
      · cases ha; exact ⟨hg, hb⟩
      · cases ha
    · rename_i hij
      refine a.up (h2 j a ha) hu (fun k hk e => hij ?_)
      have e : k = g := e
      subst e
      have h6 : own k = i + 1 := hg
      have h7 : own k = j + 1 := hk
      omega
theorem Sp.set_ {g t : Nat} {cs cs' : Array Value} (h : Sp w0 S0 l w) (i j : Nat) (v : Value) (hi : l[i]? = some (Sl.blk g cs t) := by rfl) (hn : cs.setIfInBounds j v = cs' := by rfl) : Sp w0 S0 (l.set i (Sl.blk g cs' t)) (w.setCell ⟨g, j, none⟩ v) := by
  have hb := h.blk i hi
  refine h.put_ i hi ?_ (blk_put hb j v hn)
  rw [setCell_eq_setRow w g j cs t (0, 0) v hb]
  exact upd_setRow w g _
theorem Sp.rset {α : Type} {enc : α → Value} {h1 : ∀ x, (enc x).oneCell' = true} {e g n c : Nat} {xs : List α} (h : Sp w0 S0 l w) (i : Nat) (hi : l[i]? = some (Sl.row (Kd.scalar enc h1) e (.slice (some ⟨g, 0, none⟩) n c) xs)) (hn : n = xs.length) (j : Nat) (x : α) :
    Sp w0 S0 (l.set i (Sl.row (Kd.scalar enc h1) e (.slice (some ⟨g, 0, none⟩) n c) (xs.set j x))) (w.setCell ⟨g, j, none⟩ (enc x)) := by
  subst hn
  obtain ⟨u, own, h2, h3⟩ := h
  have hR : (Kd.scalar enc h1).R e w 0 (fun k => own k = i + 1) (.slice (some ⟨g, 0, none⟩) xs.length c) xs := h3 i _ hi
  have hp := Kd.R_put hR (j : Int) x
  rw [Int.toNat_natCast] at hp
  have hg : own g = i + 1 := hR.1 g rfl
  have hu : Upd (fun k => k = g) w (w.setCell ⟨g, j, none⟩ (enc x)) := Upd.grown hp.2 (fun k hk => by cases hk; rfl)
  refine ⟨u.trans hu (fun k hk => ?_), own, h2, fun m a ha => ?_⟩
  · rw [hk]; exact h2 g (by omega)
  · rw [List.getElem?_set] at ha
    split at ha
    · rename_i hij
      subst hij
      split at ha
      · cases ha; exact hp.1
      · cases ha
    · rename_i hij
      refine a.up (h3 m a ha) hu (fun k hk e => hij ?_)
      have e : k = g := e
      subst e
      have h7 : own k = m + 1 := hk
      omega
open Classical in
theorem Sp.more (h : Sp w0 S0 l w) (hu : Upd None0 w W) (ha : a.P W (fun k => w.heap.size ≤ k)) : Sp w0 S0 (a :: l) W := by
  obtain ⟨u, own, h1, h2⟩ := h
  refine ⟨u.trans hu (fun _ h => h.elim), fun k => if w.heap.size ≤ k then 1 else if own k = 0 then 0 else own k + 1, fun k hk => ?_, fun j b hb => ?_⟩
  · dsimp only at hk
    by_cases h5 : w.heap.size ≤ k
    · exact .inr (Nat.le_trans u.size h5)
    · rw [if_neg h5] at hk
      exact h1 k (fun e => by rw [if_pos e] at hk; exact hk rfl)
  · cases j with
    | zero => cases hb; exact a.mo ha (fun k hk => if_pos hk)
    | succ j =>
      refine b.mo (b.up (b.old (h2 j b hb)) hu (fun _ _ h => h)) (fun k hk => ?_)
      have hk1 : own k = j + 1 := hk.1
      have hk2 := hk.2
      show (if w.heap.size ≤ k then 1 else if own k = 0 then 0 else own k + 1) = _
      rw [if_neg (by omega), if_neg (by omega), hk1]
theorem Sp.nilrow {α : Type} (d : Kd α) (e : Nat) (h : Sp w0 S0 l w) : Sp w0 S0 (Sl.row d e (.slice none 0 0) [] :: l) w := h.more (Upd.refl _ _) (Kd.R_nil _ _ _ _ _)
theorem Sp.opn (h : Sp w0 S0 l w) (i : Nat) (a : Ast) (hi : l[i]? = some a) : ∃ T : Nat → Prop, a.P w T ∧ ∀ (W : World) (b : Ast) (T' : Nat → Prop), (∀ k, T' k → T k) → Upd T' w W → b.P W (New w T) → Sp w0 S0 (l.set i b) W := by
  obtain ⟨u, own, h1, h2⟩ := h
  have hil := (List.getElem?_eq_some_iff.1 hi).1
  refine ⟨_, h2 i a hi, fun W b T' hT hu hb => ⟨u.trans hu (fun k hk => h1 k (by have := hT k hk; omega)), fun k => if w.heap.size ≤ k then i + 1 else own k, fun k hk => ?_, fun j c hc => ?_⟩⟩
  · dsimp only at hk
    by_cases h5 : w.heap.size ≤ k
    · exact .inr (Nat.le_trans u.size h5)
    · rw [if_neg h5] at hk; exact h1 k hk
  · rw [List.getElem?_set] at hc
    split at hc
    · rename_i hij
      subst hij
      cases hc
      refine b.mo hb (fun k hk => ?_)
      show (if w.heap.size ≤ k then i + 1 else own k) = i + 1
      by_cases h5 : w.heap.size ≤ k
      · rw [if_pos h5]
      · rw [if_neg h5]; exact hk.elim id (fun h => absurd h h5)
    · rename_i hij
      refine c.mo (c.up (c.old (h2 j c hc)) hu (fun k hk e => hij ?_)) (fun k hk => ?_)
      · have h6 := hT k e; have h7 := hk.1; omega
      · show (if w.heap.size ≤ k then i + 1 else own k) = j + 1
        rw [if_neg (by have := hk.2; omega)]; exact hk.1
end
theorem Sp.reads {α : Type} {d : Kd α} {e : Nat} {w0 w : World} {S0 : Nat → Prop} {l : List Ast} {A : Option Addr} {n c : Nat} {xs : List α} (h : Sp w0 S0 l w) (i : Nat) (hi : l[i]? = some (Sl.row d e (.slice A n c) xs) := by rfl) : d.C w A n xs := by
  have h2 := Kd.R_reads' (h.row i hi)
  rw [h2.1]
  exact h2.2.2
def QK (K : Act → World → Prop) : Exit → Act → World → Prop
  | .normal, a, w => K a w
  | _, _, _ => False
theorem qk_out {K : Act → World → Prop} (h : LetsOut (QK K)) : False := by obtain ⟨_, _, h⟩ := h; exact h
theorem oper_q {P : Program} {o : Oper} {a : Act} {w : World} {K : Act → World → Prop} {Q : Exit → Act → World → Prop} (hh : o.wp P a w K (QK K)) : o.wp P a w K Q := by
  unfold Oper.wp at *
  generalize (execOp a.eval o).run P w = r at *
  cases r with
  | ok n w' =>
    cases n <;> simp only [Oper.upon] at hh ⊢ <;>
      first
        | exact hh
        | exact Calls.mono hh (fun e w'' he => by cases e <;> first | exact he | exact (qk_out he).elim | exact False.elim he)
  | halt x w' => cases x <;> simp only [Oper.upon] at hh ⊢ <;> first | exact hh | exact (qk_out hh).elim | exact False.elim hh
theorem step_list {P : Program} {ops : Array Oper} {o : Oper} {a : Act} {W : World} {K : Act → World → Prop} {Q : Exit → Act → World → Prop} (h : wpList P ops (QK K) [o] a W) :
    if Region.wanted o (yielded ops a.tmps) = true then Oper.wp P o a W K Q else K (a.put o.dst undef) W := by
  unfold wpList at h
  split
  · rename_i hw
    rw [if_pos hw] at h
    exact h.elim oper_q (fun h => (qk_out h.2).elim)
  · rename_i hw
    rw [if_neg hw] at h
    exact h
theorem list_K {P : Program} {ops : Array Oper} {a : Act} {w : World} {K : Act → World → Prop} (h : K a w) : wpList P ops (QK K) [] a w := h
theorem qleft {P : Program} {f : FuncId} {args : Array Value} {w : World} {n : Nat} {v : Value} (h : Calls P f args (w.drewN n) fun e w' => e = .returned v ∧ w.drewN n = w') : Calls P f args (w.drewN n) fun e w'' => e = .returned v ∧ ∃ m, w'' = w.drewN m :=
  h.mono fun _ _ ⟨he, hm⟩ => ⟨he, n, hm.symm⟩
section
variable {P : Program} {ops : Array Oper} {rest : List Oper} {o : Oper} {a : Act} {Q : Exit → Act → World → Prop} {w0 w W : World} {S0 : Nat → Prop} {l l2 : List Ast}
theorem sp_cell [Lt w W] (h : Sp w0 S0 l w) (i : Nat) (hgd : o.guard = none) (ty : TypeId) (x y : Operand) (ho : o.op = .store ty x y) (hd : o.dst = none) (g j : Nat) (v : Value) (hx : a.eval x = .pointer (some ⟨g, j, none⟩)) (hy : a.eval y = v)
    (t : TypeId) (old new : Array Value) (hi : l[i]? = some (blk g old t)) (hs : (P.info? ty).map (·.size) = some 1) (hlt : j < old.size) (h1 : v.oneCell' = true) (hn : old.setIfInBounds j v = new) (hl : l.set i (blk g new t) = l2)
    (hk : ∀ w', Sp w0 S0 l2 w' → wpList P ops Q rest a w') : wpList P ops Q (o :: rest) a W := by
  subst hl
  exact cellput hgd ty x y ho hd g j v hx hy t old new (h.blkW i hi) hs hlt h1 hn (fun w' hb hu => hk w' ((h.lt (W := W)).put_ i hi hu hb))
theorem sp_box [Lt w W] (h : Sp w0 S0 l w) (hgd : o.guard = none) {N : Tmp} (hd : o.dst = some N) (cs : Array Value) (t : TypeId)
    (hrun : (execOp a.eval o).run P W = .ok (.value (.pointer (some ⟨W.heap.size, 0, none⟩))) (W.alloc (.cells cs t (0, 0))))
    (hk : ∀ g w1, w.heap.size ≤ g → Sp w0 S0 (blk g cs t :: l) w1 → wpList P ops Q rest (a.put o.dst (.pointer (some ⟨g, 0, none⟩))) w1) : wpList P ops Q (o :: rest) a W :=
  boxnew hgd hd hrun (fun g hge w1 hb hu => hk g w1 (Nat.le_trans (lu : Upd None0 w W).size hge) ((h.lt (W := W)).more hu ⟨hge, hb⟩))
theorem sp_lit {α : Type} (d : Kd α) [Lt w W] (h : Sp w0 S0 l w) (e : Nat) (hgd : o.guard = none) {N : Tmp} (hd : o.dst = some N) (xs : List α) (inner : List Value)
    (hrun : (execOp a.eval o).run P W = .ok (.value (.slice (some ⟨W.heap.size, 0, none⟩) xs.length xs.length)) (W.alloc (.cells inner.toArray e)))
    (hrep : Reps (d.M W 0 (fun _ => False)) d.sz xs inner) (hm : xs.length ≤ 9223372036854775807)
    (hk : ∀ A c w1, Sp w0 S0 (row d e (.slice A xs.length c) xs :: l) w1 → wpList P ops Q rest (a.put o.dst (.slice A xs.length c)) w1) : wpList P ops Q (o :: rest) a W :=
  row_lit d e hgd hd hrun hrep hm (fun v1 w1 hr hu => by
    obtain ⟨A, c, rfl⟩ := Kd.R_slice hr
    exact hk A c w1 ((h.lt (W := W)).more hu (row_mono hr (fun k h => h.elim (fun h => h.elim) id))))
theorem sp_app {α : Type} (d : Kd α) [Lt w W] (h : Sp w0 S0 l w) (i : Nat) (hgd : o.guard = none) (s x : Operand) (t e : TypeId) (z : Value) (bytes : Nat)
    (ho : o.op = .call { callee := .builtin .append, args := #[s, x], argTypes := #[t, t] })
    (ht : P.underlying t = some (.slice e)) (hinfo : (P.info? e).map (fun i => (i.zero, i.size, i.bytes)) = some (some z, d.sz, bytes)) (hz : z.cells.size = d.sz) (hs0 : 0 < d.sz) (hb0 : 0 < bytes)
    (v : Value) (xs : List α) (p : α) (cs : List Value) (hs : a.eval s = v) (hx : a.eval x = .slice (some ⟨W.heap.size, 0, none⟩) 1 1) (hp : d.M W 0 (fun _ => False) p cs)
    (hi : l[i]? = some (row d e v xs)) (hl : (xs.length + 1) * bytes ≤ 140737488355328) (ys : List α) (hy : xs ++ [p] = ys) (l2 : Option Addr → Nat → List Ast) (hl2 : ∀ A c, l.set i (row d e (.slice A ys.length c) ys) = l2 A c)
    (hk : ∀ A c w1, Sp w0 S0 (l2 A c) w1 → wpList P ops Q rest (a.put o.dst (.slice A ys.length c)) w1) :
    wpList P ops Q (o :: rest) a (W.alloc (.cells cs.toArray e)) := by
  obtain ⟨T, hT, hw⟩ := (h.lt (W := W)).opn i _ hi
  refine row_append d hgd s x t e z bytes ho ht hinfo hz hs0 hb0 v xs p cs hs hx hp hT hl ys hy (fun v1 w1 hr hu => ?_)
  obtain ⟨A, c, rfl⟩ := Kd.R_slice hr
  refine hk A c w1 ?_
  rw [← hl2]
  exact hw w1 _ _ (fun k hk => row_at hT hk) hu hr
theorem sp_apps {α : Type} (d : Kd α) [Lt w W] (h : Sp w0 S0 l w) (i : Nat) (hgd : o.guard = none) (s x : Operand) (t e : TypeId) (z : Value) (bytes : Nat)
    (ho : o.op = .call { callee := .builtin .append, args := #[s, x], argTypes := #[t, t] })
    (ht : P.underlying t = some (.slice e)) (hinfo : (P.info? e).map (fun i => (i.zero, i.size, i.bytes)) = some (some z, d.sz, bytes)) (hz : z.cells.size = d.sz) (hs0 : 0 < d.sz) (hb0 : 0 < bytes)
    (v : Value) (xs ys : List α) (A : Option Addr) (m c : Nat) (hs : a.eval s = v) (hx : a.eval x = .slice A m c)
    (hi : l[i]? = some (row d e v xs)) (HR : d.C W A m ys) (hKM : ∀ x cs, d.K W x cs → d.M W 0 (fun _ => False) x cs) (hl : (xs.length + m) * bytes ≤ 140737488355328) (zs : List α) (hy : xs ++ ys = zs) (l2 : Option Addr → Nat → List Ast) (hl2 : ∀ A c, l.set i (row d e (.slice A zs.length c) zs) = l2 A c)
    (hk : ∀ A c w1, Sp w0 S0 (l2 A c) w1 → wpList P ops Q rest (a.put o.dst (.slice A zs.length c)) w1) :
    wpList P ops Q (o :: rest) a W := by
  obtain ⟨T, hT, hw⟩ := (h.lt (W := W)).opn i _ hi
  refine row_append_rows d hgd s x t e z bytes ho ht hinfo hz hs0 hb0 v xs ys A m c hs hx hT HR hKM hl zs hy (fun v1 w1 hr hu => ?_)
  obtain ⟨A, c, rfl⟩ := Kd.R_slice hr
  refine hk A c w1 ?_
  rw [← hl2]
  exact hw w1 _ _ (fun k hk => row_at hT hk) hu hr
end
end Go.Proofs.Ytpiejdncoeldeaa.Sl
namespace Go.Proofs.Ytpiejdncoeldeaa.Bs
open Go.RowKit Go.Proofs.YtpiejdncoeldeaaW.PrintWords Go.Proofs.YtpiejdncoeldeaaW.PrintLast Go.Proofs.YtpiejdncoeldeaaW.PrintMore
set_option linter.unusedVariables false
def Bytes (l : List Int) : Prop := ∀ b, b ∈ l → 0 ≤ b ∧ b < 256
theorem bytes_of (s : ByteArray) : Bytes (bytesOf s) := by
  intro b hb
  simp only [bytesOf, List.mem_map] at hb
  obtain ⟨u, _, rfl⟩ := hb
  have := u.toNat_lt
  omega
theorem bytesOf_nums (l : List Int) (h : Bytes l) : bytesOf (strOfNums l) = l := by
  unfold bytesOf
  rw [strOfNums_data, List.map_map]
  conv => rhs; rw [← List.map_id l]
  apply List.map_congr_left
  intro x hx
  have := h x hx
  simp only [Function.comp, id]
  rw [UInt8.toNat_ofNat_of_lt' (by have : x.toNat < 256 := by omega
                                   simpa [UInt8.size] using this)]
  omega
theorem bt_get (s : ByteArray) (i : Int) : bt s i = (bytesOf s).getD i.toNat 0 := by rw [← rd_bytesOf]; rfl
end Go.Proofs.Ytpiejdncoeldeaa.Bs

namespace Go.Proofs.Ytpiejdncoeldeaa.Cm
open Go.RowKit Go.Proofs.YtpiejdncoeldeaaW.PrintWords Go.Proofs.YtpiejdncoeldeaaW.PrintLast Go.Proofs.YtpiejdncoeldeaaW.PrintMore Go.Proofs.Ytpiejdncoeldeaa.Bs Go.Proofs.Ytpiejdncoeldeaa.Ord
attribute [local go_sem] max2_int min2_int max_two min_two max_three min_three max_four min_four
set_option linter.unusedVariables false
set_option linter.unusedSimpArgs false
abbrev sq (s : ByteArray) : Nat → Int := seq (bytesOf s)
theorem sq_in (s : ByteArray) (i : Nat) (h : i < s.size) : ((s[i]).toNat : Int) = sq s i := by
  have := bt_at s (i : Int) h
  simp only [Int.toNat_natCast] at this
  rw [this, bt_get, Int.toNat_natCast]; unfold sq seq; rw [List.getD_eq_getElem?_getD]
theorem sq_out (s : ByteArray) (i : Nat) (h : s.size ≤ i) : sq s i = 0 := by
  unfold sq seq; rw [List.getD_eq_getElem?_getD, List.getElem?_eq_none (by rw [bytesOf_length]; omega)]; rfl
theorem at_any (s : ByteArray) (i : Nat) (w : World) (hi : i ≤ 9000000000000000000) (hs : s.size ≤ 9000000000000000000) :
    Calls Try.prog 22 #[.string s, .int .i64 (i : Int)] w fun e w' => e = .returned (.int .u8 (sq s i)) ∧ w = w' := by
  by_cases h : i < s.size
  · have hd : decide ((i : Int) < (s.size : Int)) = true := decide_eq_true (by omega)
    have hb : ∀ h : i < s.size, ((s[i]'h).toNat : Int) = sq s i := sq_in s i
    go_enter Try.func22, Try.ntmps22
    go_wp2
    go_ret
    exact ⟨rfl, rfl⟩
  · have hd : decide ((i : Int) < (s.size : Int)) = false := decide_eq_false (by omega)
    have hz := sq_out s i (by omega)
    go_enter Try.func22, Try.ntmps22
    go_wp2
    go_ret
    exact ⟨by rw [hz]; rfl, rfl⟩
set_option maxRecDepth 100000 in
set_option maxHeartbeats 1000000 in
theorem cmp_any (a b : ByteArray) (c : Int) (w : World) (ha : a.size ≤ 1000000) (hb : b.size ≤ 1000000) (hc : Cmp (sq a) (sq b) c) :
    Calls Try.prog 9 #[.string a, .string b] w fun e w' => e = .returned (.int .i64 c) ∧ w = w' := by
  have HC := Aside0.mk hc
  obtain ⟨m, hm⟩ : ∃ m : Nat, (if a.size < b.size then b.size else a.size) = m := ⟨_, rfl⟩
  have HM := Aside0.mk (show a.size ≤ m ∧ b.size ≤ m ∧ m ≤ 1000000 by split at hm <;> omega)
  clear hc
  have hmi : (if a.size < b.size then (b.size : Int) else (a.size : Int)) = (m : Int) := by rw [← hm]; split <;> rfl
  clear hm ha hb
  go_enter Try.func9, Try.ntmps9
  go_wp2
  clear hmi
  go_loopg [13] m (fun gk v13 wr => ∃ i : Nat, v13 = .int .i64 (i : Int) ∧ Aside0 (i ≤ m ∧ m - i ≤ gk) ∧ Aside0 (∀ j, j < i → sq a j = sq b j) ∧ w = wr)
  case atStart => exact ⟨0, rfl, ⟨Nat.zero_le _, by omega⟩, ⟨fun j h => absurd h (by omega)⟩, rfl⟩
  case round =>
    obtain ⟨i, rfl, HI, HJ, rfl⟩ := hrel
    have hi0 : (0 : Int) ≤ (i : Int) := by omega
    have him : (i : Int) ≤ 1000000 := by have := HI.out.1; have := HM.out; omega
    by_cases hlt : i < m
    · have hd : decide (i < m) = true := decide_eq_true hlt
      obtain ⟨x, hx⟩ : ∃ x, sq a i = x := ⟨_, rfl⟩
      obtain ⟨y, hy⟩ : ∃ y, sq b i = y := ⟨_, rfl⟩
      have HX := Aside0.mk hx
      have HY := Aside0.mk hy
      have HS := Aside0.mk (show a.size ≤ 9000000000000000000 ∧ b.size ≤ 9000000000000000000 by have := HM.out; omega)
      have HLT := Aside0.mk hlt
      clear hx hy hlt
      by_cases h1 : x < y
      · have k1 : decide (x < y) = true := decide_eq_true h1
        obtain rfl := HC.out.uniq (.inr (.inl ⟨rfl, i, by rw [HX.out, HY.out]; exact h1, HJ.out⟩))
        clear h1
        go_wp2_with (first | (go_at_call 22; first | ((with_reducible refine (at_any a i _ (by omega) (by exact HS.out.1)).mono ?_); rintro e w' ⟨rfl, rfl⟩; rw [HX.out]) | ((with_reducible refine (at_any b i _ (by omega) (by exact HS.out.2)).mono ?_); rintro e w' ⟨rfl, rfl⟩; rw [HY.out])))
        go_ret
        exact ⟨rfl, rfl⟩
      have k1 : decide (x < y) = false := decide_eq_false h1
      by_cases h2 : y < x
      · have k2 : decide (y < x) = true := decide_eq_true h2
        obtain rfl := HC.out.uniq (.inr (.inr ⟨rfl, i, by rw [HX.out, HY.out]; exact h2, HJ.out⟩))
        clear h1 h2
        go_wp2_with (first | (go_at_call 22; first | ((with_reducible refine (at_any a i _ (by omega) (by exact HS.out.1)).mono ?_); rintro e w' ⟨rfl, rfl⟩; rw [HX.out]) | ((with_reducible refine (at_any b i _ (by omega) (by exact HS.out.2)).mono ?_); rintro e w' ⟨rfl, rfl⟩; rw [HY.out])))
        go_ret
        exact ⟨rfl, rfl⟩
      have k2 : decide (y < x) = false := decide_eq_false h2
      have HE := Aside0.mk (show x = y by omega)
      clear h1 h2
      go_wp2_with (first | (go_at_call 22; first | ((with_reducible refine (at_any a i _ (by omega) (by exact HS.out.1)).mono ?_); rintro e w' ⟨rfl, rfl⟩; rw [HX.out]) | ((with_reducible refine (at_any b i _ (by omega) (by exact HS.out.2)).mono ?_); rintro e w' ⟨rfl, rfl⟩; rw [HY.out])))
      go_roundg (gk - 1)
      case measure => have := HI.out; have := HLT.out; omega
      case rel => exact ⟨i + 1, by go_num, ⟨HLT.out, by have := HI.out; omega⟩, ⟨fun j hj => by
        by_cases h : j = i
        · subst h; rw [HX.out, HY.out, HE.out]
        · exact HJ.out j (by omega)⟩, rfl⟩
    · have hd : decide (i < m) = false := decide_eq_false hlt
      obtain rfl := HC.out.uniq (.inl ⟨rfl, fun j => by
        by_cases h : j < i
        · exact HJ.out j h
        · rw [sq_out a j (by have := HM.out; omega), sq_out b j (by have := HM.out; omega)]⟩)
      go_wp2
      go_ret
      exact ⟨rfl, rfl⟩
theorem cmp_nums {a b : List Int} {c : Int} (hb : Bytes a ∧ Bytes b ∧ a.length ≤ 1000000 ∧ b.length ≤ 1000000) (hc : Cmp (seq a) (seq b) c) (w : World) :
    Calls Try.prog 9 #[.string (strOfNums a), .string (strOfNums b)] w fun e w' => e = .returned (.int .i64 c) ∧ w = w' := by
  have h1 : ∀ l : List Int, Bytes l → (strOfNums l).size = l.length := fun l h => by rw [← bytesOf_length, bytesOf_nums l h]
  refine cmp_any _ _ c w (by rw [h1 a hb.1]; exact hb.2.2.1) (by rw [h1 b hb.2.1]; exact hb.2.2.2) ?_
  unfold sq
  rw [bytesOf_nums a hb.1, bytesOf_nums b hb.2.1]
  exact hc
end Go.Proofs.Ytpiejdncoeldeaa.Cm
namespace Go.Proofs.Ytpiejdncoeldeaa.Srt
open Go.RowKit Go.Proofs.YtpiejdncoeldeaaW.PrintWords Go.Proofs.YtpiejdncoeldeaaW.PrintLast Go.Proofs.YtpiejdncoeldeaaW.PrintMore Go.Proofs.Ytpiejdncoeldeaa.Own Go.Proofs.Ytpiejdncoeldeaa.Sl Go.Proofs.Ytpiejdncoeldeaa.Bs Go.Proofs.Ytpiejdncoeldeaa.Ord Go.Proofs.Ytpiejdncoeldeaa.Cm
set_option linter.unusedVariables false
set_option linter.unusedSimpArgs false
noncomputable def cm (a b : ByteArray) : Int := Classical.epsilon (fun c => Cmp (sq a) (sq b) c)
theorem seq_far (l : List Int) (i : Nat) (h : l.length ≤ i) : seq l i = 0 := by
  unfold seq; rw [List.getD_eq_getElem?_getD, List.getElem?_eq_none h]; rfl
theorem cmp_tot (A B : Nat → Int) (n : Nat) (h : ∀ i, n ≤ i → A i = B i) : ∃ c, Cmp A B c := by
  by_cases he : ∀ i, A i = B i
  · exact ⟨0, .inl ⟨rfl, he⟩⟩
  · obtain ⟨i, hi⟩ : ∃ i, A i ≠ B i := Classical.not_forall.1 he
    obtain ⟨i, hi, hm⟩ : ∃ i, A i ≠ B i ∧ ∀ j, j < i → A j = B j := by
      induction i using Nat.strongRecOn with
      | _ i ih =>
        by_cases h2 : ∃ j, j < i ∧ A j ≠ B j
        · obtain ⟨j, hj, hj2⟩ := h2
          exact ih j hj hj2
        · exact ⟨i, hi, fun j hj => Classical.byContradiction fun h3 => h2 ⟨j, hj, h3⟩⟩
    rcases Int.lt_or_gt_of_ne hi with h3 | h3
    · exact ⟨-1, .inr (.inl ⟨rfl, i, h3, hm⟩)⟩
    · exact ⟨1, .inr (.inr ⟨rfl, i, h3, hm⟩)⟩
theorem cm_spec (a b : ByteArray) : Cmp (sq a) (sq b) (cm a b) := by
  refine Classical.epsilon_spec (p := fun c => Cmp (sq a) (sq b) c) (cmp_tot _ _ (a.size + b.size) (fun i h => ?_))
  unfold sq
  rw [seq_far _ i (by rw [bytesOf_length]; omega), seq_far _ i (by rw [bytesOf_length]; omega)]
theorem cm_eq {a b : ByteArray} {c : Int} (h : Cmp (sq a) (sq b) c) : cm a b = c := (cm_spec a b).uniq h
theorem cm_swap (a b : ByteArray) : cm b a = - cm a b := cm_eq (cm_spec a b).swap
theorem clo_any (a b : ByteArray) (w : World) (ha : a.size ≤ 1000000) (hb : b.size ≤ 1000000) :
    Calls Try.prog 25 #[.string a, .string b] w fun e w' => e = .returned (.int .i64 (cm a b)) ∧ w = w' := by
  go_enter Try.func25, Try.ntmps25
  go_wp2_with (first
    | (go_at_call 9
       (with_reducible refine (cmp_any a b (cm a b) _ ha hb (cm_spec a b)).mono ?_)
       rintro e w' ⟨rfl, rfl⟩))
  go_ret
  exact ⟨rfl, rfl⟩
noncomputable def sift (a : Nat) : Nat → List ByteArray → List ByteArray
  | 0, xs => xs
  | j + 1, xs => if a < j + 1 ∧ cm (xs.getD (j + 1) ByteArray.empty) (xs.getD j ByteArray.empty) < 0 then sift a j ((xs.set (j + 1) (xs.getD j ByteArray.empty)).set j (xs.getD (j + 1) ByteArray.empty)) else xs
noncomputable def insF (a : Nat) : Nat → Nat → List ByteArray → List ByteArray
  | _, 0, xs => xs
  | i, m + 1, xs => insF a (i + 1) m (sift a i xs)
theorem sift_len (a : Nat) : ∀ (j : Nat) (xs : List ByteArray), (sift a j xs).length = xs.length
  | 0, xs => rfl
  | j + 1, xs => by unfold sift; split; rw [sift_len a j]; simp; rfl
theorem getD_mem_or (xs : List ByteArray) (i : Nat) (p : ByteArray → Prop) (h : ∀ s, s ∈ xs → p s) (h0 : p ByteArray.empty) : p (xs.getD i ByteArray.empty) := by
  rw [List.getD_eq_getElem?_getD]
  cases hx : xs[i]? with
  | none => exact h0
  | some s => exact h s (List.mem_of_getElem? hx)
theorem set_all {xs : List ByteArray} {i : Nat} {s : ByteArray} {p : ByteArray → Prop} (h : ∀ s, s ∈ xs → p s) (hs : p s) : ∀ x, x ∈ xs.set i s → p x := fun x hx => (List.mem_or_eq_of_mem_set hx).elim (h x) (fun e => e ▸ hs)
theorem str_cell {W : World} {g n i : Nat} {l : List ByteArray} {s : ByteArray} (h : Kd.C Kd.string W (some ⟨g, 0, none⟩) n l) (hi : i < l.length) (hs : l.getD i ByteArray.empty = s) : W.cell? ⟨g, i, none⟩ = some (.string s) := by
  have hn := h.1
  obtain ⟨ad2, e, hx⟩ := Kd.at_string h (i : Int) (by omega) (by omega)
  cases e
  have e2 : rdOf ByteArray.empty l (i : Int) = s := by rw [← hs]; simp [rdOf, hi]
  rw [e2] at hx
  rw [add_plain] at hx
  simpa using hx
theorem row_fz {e : Nat} {w0 w : World} {S : Nat → Prop} {l : List Ast} {g n c : Nat} {xs : List ByteArray} (h : Sp w0 S l w) (k : Nat) (hi : l[k]? = some (row Kd.string e (.slice (some ⟨g, 0, none⟩) n c) xs)) (hn : n = xs.length) (i : Nat) (hlt : i < xs.length) : w.frozen? ⟨g, i, none⟩ = false := by
  subst hn
  have := (Kd.R_cell ByteArray.empty (h.row k hi) (i : Int) (by omega) (by omega)).2
  simpa using this
set_option maxHeartbeats 8000000 in
set_option maxRecDepth 100000 in
theorem ins_any (g c n a b : Nat) (xs : List ByteArray) (w : World) (S : Nat → Prop) (h : Hs w S [row Kd.string 9 (.slice (some ⟨g, 0, none⟩) n c) xs]) (hn : n = xs.length) (ha : a ≤ n) (hb : b ≤ n) (hn2 : n ≤ 100000) (hs : ∀ s, s ∈ xs → s.size ≤ 1000000) :
    Calls Try.prog 27 #[.slice (some ⟨g, 0, none⟩) n c, .int .i64 (a : Int), .int .i64 (b : Int), .func (.func 25) #[] #[]] w fun e w' => e = .returned (.tuple #[]) ∧ Sp w S [row Kd.string 9 (.slice (some ⟨g, 0, none⟩) n c) (insF a (a + 1) (b - (a + 1)) xs)] w' := by
  have hS := Sp.start h
  have HN := Aside0.mk hn2
  have HA := Aside0.mk (And.intro ha hb)
  have hbi : (b : Int) ≤ 100000 := by omega
  have hai : (a : Int) ≤ 100000 := by omega
  obtain ⟨Z, hZ⟩ : ∃ Z, insF a (a + 1) (b - (a + 1)) xs = Z := ⟨_, rfl⟩
  rw [hZ]
  have H0 := Aside0.mk (And.intro hZ (And.intro hn hs))
  clear h hZ hn hs hb hn2 ha
  go_enter Try.func27, Try.ntmps27
  go_wp2
  go_loopg [8] (b + 1) (fun gk v8 wr => ∃ (i : Nat) (ys : List ByteArray), v8 = .int .i64 (i : Int) ∧ Aside0 (i ≤ n + 1 ∧ b - i < gk ∧ insF a i (b - i) ys = Z ∧ n = ys.length ∧ ∀ s, s ∈ ys → s.size ≤ 1000000) ∧ Aside0 (Sp w S [row Kd.string 9 (.slice (some ⟨g, 0, none⟩) n c) ys] wr))
  case atStart => exact ⟨a + 1, xs, by simp, ⟨by have := HA.out; omega, by omega, H0.out.1, H0.out.2.1, H0.out.2.2⟩, ⟨hS⟩⟩
  case round =>
    clear hS H0
    obtain ⟨i, ys, rfl, HI, HS⟩ := hrel
    have hS := HS.out
    clear HS
    obtain ⟨gko, hgko⟩ : ∃ q, q = gk := ⟨_, rfl⟩
    rw [← hgko] at HI
    have hi0 : (0 : Int) ≤ (i : Int) := by omega
    have hi1 : (i : Int) ≤ 100001 := by have := HI.out.1; have := HN.out; omega
    by_cases hlt : i < b
    case neg =>
      have hd : decide (i < b) = false := decide_eq_false hlt
      have HZ := Aside0.mk (show ys = Z by have := HI.out.2.2.1; rw [show b - i = 0 by omega] at this; exact this)
      go_wp2
      go_end0
      obtain rfl := HZ.out
      exact ⟨rfl, hS⟩
    have hd : decide (i < b) = true := decide_eq_true hlt
    obtain ⟨Y, hY⟩ : ∃ Y, sift a i ys = Y := ⟨_, rfl⟩
    have HY := Aside0.mk (show insF a (i + 1) (b - (i + 1)) Y = Z by
      have := HI.out.2.2.1
      rw [show b - i = (b - (i + 1)) + 1 by omega] at this
      rw [← hY]; exact this)
    have HLT := Aside0.mk hlt
    have H1 := Aside0.mk (And.intro hY (And.intro HI.out.2.2.2.1 HI.out.2.2.2.2))
    have HIB := Aside0.mk (And.intro HI.out.1 HI.out.2.1)
    clear hY hlt HI
    go_wp2
    go_loopg [9] (i + 1) (fun gk v9 wr => ∃ (j : Nat) (zs : List ByteArray), v9 = .int .i64 (j : Int) ∧ Aside0 (j ≤ i ∧ j < gk ∧ sift a j zs = Y ∧ n = zs.length ∧ ∀ s, s ∈ zs → s.size ≤ 1000000) ∧ Aside0 (Sp w S [row Kd.string 9 (.slice (some ⟨g, 0, none⟩) n c) zs] wr))
    case atStart => exact ⟨i, ys, by simp, ⟨Nat.le_refl _, by omega, H1.out.1, H1.out.2.1, H1.out.2.2⟩, ⟨hS⟩⟩
    case round =>
      clear hS H1 hd
      obtain ⟨j, zs, rfl, HJ, HS⟩ := hrel
      have hS := HS.out
      clear HS
      have hj0 : (0 : Int) ≤ (j : Int) := by omega
      have hj1 : (j : Int) ≤ 100001 := by have := HJ.out.1; omega
      by_cases hja : a < j
      case neg =>
        have hd : decide (a < j) = false := decide_eq_false hja
        have HZ := Aside0.mk (show zs = Y by
          have := HJ.out.2.2.1
          cases j with
          | zero => exact this
          | succ j => unfold sift at this; rw [if_neg (fun h => hja h.1)] at this; exact this)
        clear hja
        go_wp2
        go_quiet (fail)
        go_wp2
        go_roundg (gko - 1)
        case measure => have := HIB.out; have := HLT.out; omega
        case rel => exact ⟨i + 1, Y, by simp, ⟨by have := HLT.out; have := HA.out; omega, by have := HIB.out; have := HLT.out; omega, HY.out, by rw [← HZ.out]; exact HJ.out.2.2.2.1, by rw [← HZ.out]; exact HJ.out.2.2.2.2⟩, ⟨by rw [← HZ.out]; exact hS.lt⟩⟩
      have hd : decide (a < j) = true := decide_eq_true hja
      obtain ⟨p, rfl⟩ : ∃ p, j = p + 1 := ⟨j - 1, by omega⟩
      obtain ⟨q, hq⟩ : ∃ q, p + 1 = q := ⟨_, rfl⟩
      have hsi := HJ.out.2.2.1
      obtain ⟨x, hx⟩ : ∃ x, zs.getD (p + 1) ByteArray.empty = x := ⟨_, rfl⟩
      obtain ⟨y, hy⟩ : ∃ y, zs.getD p ByteArray.empty = y := ⟨_, rfl⟩
      unfold sift at hsi
      rw [hx, hy] at hsi
      have hpl : p + 1 < zs.length := by have := HJ.out; have := HLT.out; have := HA.out; omega
      have hxs : x.size ≤ 1000000 := by rw [← hx]; exact getD_mem_or zs _ _ HJ.out.2.2.2.2 (by decide)
      have hys : y.size ≤ 1000000 := by rw [← hy]; exact getD_mem_or zs _ _ HJ.out.2.2.2.2 (by decide)
      have hcx := str_cell (hS.reads 0) hpl hx
      have hcy := str_cell (hS.reads 0) (show p < zs.length by omega) hy
      rw [hq] at hcx hsi hja hd hpl ⊢
      have hqn : (q : Int) < (n : Int) := by have := HJ.out.2.2.2.1; omega
      have hpn : (p : Int) < (n : Int) := by have := HJ.out.2.2.2.1; omega
      have hqp : (q : Int) - 1 = (p : Int) := by omega
      have hqw : IntKind.i64.wrap (p : Int) = (p : Int) := by rw [IntKind.wrap_i64]; omega
      have hq0 : (0 : Int) ≤ (q : Int) := by omega
      have hp0 : (0 : Int) ≤ (p : Int) := by omega
      obtain ⟨k, hk⟩ : ∃ k, cm x y = k := ⟨_, rfl⟩
      have HCL := Aside0.mk (fun W => clo_any x y W hxs hys)
      rw [hk] at HCL hsi
      have HJ2 := Aside0.mk (show q ≤ i ∧ q < gk + 1 ∧ n = zs.length ∧ (∀ s, s ∈ zs → s.size ≤ 1000000) ∧ p + 1 = q by have := HJ.out; exact ⟨by omega, by omega, this.2.2.2.1, this.2.2.2.2, hq⟩)
      have HGK := Aside0.mk (show q < gk by have := HJ.out; omega)
      have HXY := Aside0.mk (And.intro hxs hys)
      have HX := Aside0.mk (show zs.getD q ByteArray.empty = x by rw [← hq]; exact hx)
      have HXv := Aside0.mk hy
      by_cases hk0 : k < 0
      · have hd2 : decide (k < 0) = true := decide_eq_true hk0
        rw [if_pos ⟨hja, hk0⟩] at hsi
        have HSI := Aside0.mk hsi
        clear hsi hja hk0 hq hk hx hy hxs hys HJ hj0 hj1
        go_wp2
        go_quiet ((go_at_call 25; exact qleft (HCL.out _)))
        go_wp2
        clear hd2 hcx hcy
        replace hS : Sp w S _ (wr.drewN nq) := hS.lt
        generalize wr.drewN nq = W1 at hS ⊢
        have hcx := str_cell (hS.reads 0) hpl HX.out
        have hcy := str_cell (hS.reads 0) (show p < zs.length by omega) HXv.out
        have hfx := row_fz hS 0 rfl HJ2.out.2.2.1 q hpl
        have hfy := row_fz hS 0 rfl HJ2.out.2.2.1 p (by omega)
        go_region
        go_wp2
        have hS2 := (hS.rset 0 rfl HJ2.out.2.2.1 q y).rset 0 rfl (by rw [List.length_set]; exact HJ2.out.2.2.1) p x
        go_roundg (gk - 1)
        case measure => have := HGK.out; omega
        case rel => exact ⟨p, (zs.set q y).set p x, by simp, ⟨by have := HJ2.out; omega, by have := HJ2.out; have := HGK.out; omega, HSI.out, by simp; exact HJ2.out.2.2.1, set_all (set_all HJ2.out.2.2.2.1 HXY.out.2) HXY.out.1⟩, ⟨by exact Sp.lt (Sp.sel (l2 := [row Kd.string 9 (.slice (some ⟨g, 0, none⟩) n c) ((zs.set q y).set p x)]) hS2 [0])⟩⟩
      · have hd2 : decide (k < 0) = false := decide_eq_false hk0
        rw [if_neg (fun h => hk0 h.2)] at hsi
        have HSI := Aside0.mk hsi
        clear hsi hja hk0 hq hk hx hy hxs hys HJ hj0 hj1
        go_wp2
        go_quiet ((go_at_call 25; exact qleft (HCL.out _)))
        go_wp2
        go_roundg (gko - 1)
        case measure => have := HIB.out; have := HLT.out; omega
        case rel => exact ⟨i + 1, Y, by simp, ⟨by have := HLT.out; have := HA.out; omega, by have := HIB.out; have := HLT.out; omega, HY.out, by rw [← HSI.out]; exact HJ2.out.2.2.1, by rw [← HSI.out]; exact HJ2.out.2.2.2.1⟩, ⟨by rw [← HSI.out]; exact hS.lt⟩⟩
end Go.Proofs.Ytpiejdncoeldeaa.Srt
namespace Go.Proofs
open Go.Shelf
def Try.laysNm216_ren : Go.Shelf.Ren := ⟨fun | 16 => 23 | n => n, fun | 24 => 38 | 9 => 9 | 4 => 4 | n => n, fun | n => n⟩
theorem Try.laysNm216 : Go.Proofs.Lays2.n16 Try.prog Try.laysNm216_ren := {
  mixed := by kernel_rfl
  f16 := Try.func23.trans (congrArg some (by kernel_rfl))
  t4 := Try.underlying4
  a4 := Try.isAgg4
  z4 := Try.sizeOf4
  v4 := Try.zeroValue4
  t9 := Try.underlying9
  a9 := Try.isAgg9
  z9 := Try.sizeOf9
  v9 := Try.zeroValue9
  t24 := Try.underlying38
  a24 := Try.isAgg38
  z24 := Try.sizeOf38
  v24 := Try.zeroValue38
  i9 := by kernel_rfl }
open Go.RowKit Go.Lib in
theorem Try.slices_Clone_string (b off n c : Nat) (zs : List ByteArray) (w : World) (hz : n ≤ zs.length) (hbig : n * 16 ≤ 140737488355328) (hc : ∀ j, j < zs.length → w.cell? ⟨b, off + j, none⟩ = some (.string (zs.getD j ByteArray.empty))) :
    Calls Try.prog 23 #[.slice (some ⟨b, off, none⟩) n c] w fun e w' => ∃ v', e = .returned v' ∧ w'.ownsRow w.heap.size 9 1 v' n ((zs.take n).map (Value.string)) ∧ v' ≠ .slice none 0 0 ∧ Below w.heap.size w w' := Any.slices_Clone_string Try.laysNm216 b off n c zs w hz hbig hc
open Go.RowKit Go.Lib in
theorem Try.slices_Clone_string_nil (n c : Nat) (w : World) :
    Calls Try.prog 23 #[.slice none n c] w fun e w' => e = .returned (.slice none 0 0) ∧ w' = w := Any.slices_Clone_string_nil Try.laysNm216 n c w
open Go.RowKit Go.Lib in
theorem Try.slices_Clone_string_zero (a : Addr) (c : Nat) (w : World) :
    Calls Try.prog 23 #[.slice (some a) 0 c] w fun e w' => ∃ v', e = .returned v' ∧ w'.ownsRow w.heap.size 9 1 v' 0 [] ∧ v' ≠ .slice none 0 0 ∧ Below w.heap.size w w' := Any.slices_Clone_string_zero Try.laysNm216 a c w
end Go.Proofs
namespace Go.Proofs.Ytpiejdncoeldeaa.Srt
open Go.RowKit Go.Proofs.YtpiejdncoeldeaaW.PrintWords Go.Proofs.YtpiejdncoeldeaaW.PrintLast Go.Proofs.YtpiejdncoeldeaaW.PrintMore Go.Proofs.Ytpiejdncoeldeaa.Own Go.Proofs.Ytpiejdncoeldeaa.Sl Go.Proofs.Ytpiejdncoeldeaa.Bs Go.Proofs.Ytpiejdncoeldeaa.Ord Go.Proofs.Ytpiejdncoeldeaa.Cm
set_option linter.unusedVariables false
set_option linter.unusedSimpArgs false
noncomputable def srt (l : List ByteArray) : List ByteArray := insF 0 1 (l.length - 1) l
theorem insF_len (a : Nat) : ∀ (m i : Nat) (xs : List ByteArray), (insF a i m xs).length = xs.length
  | 0, i, xs => rfl
  | m + 1, i, xs => by unfold insF; rw [insF_len a m, sift_len]
theorem srt_len (l : List ByteArray) : (srt l).length = l.length := insF_len _ _ _ _
theorem ins_none (A : Option Addr) (c : Nat) (w : World) :
    Calls Try.prog 27 #[.slice A 0 c, .int .i64 0, .int .i64 0, .func (.func 25) #[] #[]] w fun e w' => e = .returned (.tuple #[]) ∧ w = w' := by
  go_enter Try.func27, Try.ntmps27
  go_wp2
  refine wp_loop_rounds 1 ?_
  rw [rounds_succ]
  go_wp2
  go_end0
  exact ⟨rfl, rfl⟩
set_option maxHeartbeats 4000000 in
set_option maxRecDepth 100000 in
theorem stable_small (A : Option Addr) (c n : Nat) (xs : List ByteArray) (w : World) (S : Nat → Prop) (h : Hs w S [row Kd.string 9 (.slice A n c) xs]) (hn : n = xs.length) (hn2 : n < 20) (hs : ∀ s, s ∈ xs → s.size ≤ 1000000) :
    Calls Try.prog 26 #[.slice A n c, .int .i64 (n : Int), .func (.func 25) #[] #[]] w fun e w' => e = .returned (.tuple #[]) ∧ Sp w S [row Kd.string 9 (.slice A n c) (srt xs)] w' := by
  have hS := Sp.start h
  have HI : Calls Try.prog 27 #[.slice A n c, .int .i64 0, .int .i64 (n : Int), .func (.func 25) #[] #[]] w fun e w' => e = .returned (.tuple #[]) ∧ Sp w S [row Kd.string 9 (.slice A n c) (srt xs)] w' := by
    by_cases h0 : n = 0
    · have hx : xs = [] := List.eq_nil_of_length_eq_zero (by omega)
      subst hx
      subst h0
      refine (ins_none A c w).mono fun e w' ⟨h1, h2⟩ => ⟨h1, ?_⟩
      subst h2
      exact hS
    · have hR := hS.row 0
      obtain ⟨g, cap, hv, _⟩ := Kd.R_form hR (by omega)
      cases hv
      refine (ins_any g c xs.length 0 xs.length xs w S h rfl (Nat.zero_le _) (Nat.le_refl _) (by omega) hs).mono fun e w' ⟨h1, h2⟩ => ⟨h1, ?_⟩
      unfold srt
      simpa using h2
  have HIA := Aside0.mk HI
  have hd1 : decide ((20 : Int) ≤ (n : Int)) = false := decide_eq_false (by omega)
  have hd2 : decide ((20 : Int) < (n : Int)) = false := decide_eq_false (by omega)
  clear h HI hS hn hs
  go_enter Try.func26, Try.ntmps26
  go_wp2
  refine wp_loop_rounds 1 ?_
  rw [rounds_succ]
  go_wp2_with (first
    | (go_at_call 27
       (with_reducible refine HIA.out.mono ?_)
       rintro e w3 ⟨rfl, hq⟩
       have HQ := Aside0.mk hq
       clear hq))
  refine wp_loop_rounds 1 ?_
  rw [rounds_succ]
  go_wp2
  go_end0
  exact ⟨rfl, HQ.out⟩
theorem clone_any (A : Option Addr) (c : Nat) (l : List ByteArray) (w : World) (S' : Nat → Prop) (hR : Kd.string.R 9 w 0 S' (.slice A l.length c) l) (hl : l.length ≤ 100000) :
    Calls Try.prog 23 #[.slice A l.length c] w fun e w' => ∃ A2 c2, e = .returned (.slice A2 l.length c2) ∧ Sp w None0 [row Kd.string 9 (.slice A2 l.length c2) l] w' := by
  have key : ∀ (v' : Value) (w' : World), w'.ownsRow w.heap.size 9 1 v' l.length (l.map Value.string) → Below w.heap.size w w' → ∃ A2 c2, v' = .slice A2 l.length c2 ∧ Sp w None0 [row Kd.string 9 (.slice A2 l.length c2) l] w' := by
    intro v' w' h1 h2
    have hR : Kd.string.R 9 w' 0 (fun k => w.heap.size ≤ k) v' l := by
      have h3 := Kd.R_of_own (enc := Value.string) (h1 := fun _ => rfl) (xs := l) (ok := fun k => w.heap.size ≤ k) h1 (fun k hk => own_base h1 k hk)
      exact Kd.R_lower h3 (Nat.zero_le _)
    obtain ⟨A2, c2, rfl⟩ := Kd.R_slice hR
    exact ⟨A2, c2, rfl, (Sp.nil (w := w) (S := None0)).more (Upd.of_below h2) hR⟩
  cases A with
  | none =>
    have h0 : l = [] := by
      cases l with
      | nil => rfl
      | cons x r => obtain ⟨ad, _, h, _⟩ := Kd.C_get (Kd.R_reads' hR).2.2 ByteArray.empty (0 : Int) (by omega) (by simp); cases h
    subst h0
    refine (Try.slices_Clone_string_nil 0 c w).mono fun e w' ⟨h1, h2⟩ => ?_
    subst h2
    exact ⟨none, 0, h1, (Sp.nil (w := _) (S := None0)).nilrow Kd.string 9⟩
  | some ad =>
    by_cases h0 : l = []
    · subst h0
      refine (Try.slices_Clone_string_zero ad c w).mono fun e w' ⟨v', h1, h2, _, h3⟩ => ?_
      obtain ⟨A2, c2, rfl, h4⟩ := key v' w' h2 h3
      exact ⟨A2, c2, h1, h4⟩
    · obtain ⟨g, rfl⟩ := Kd.R_head hR
      have hcs := (Kd.R_reads' hR).2.2
      refine (Try.slices_Clone_string g 0 l.length c l w (Nat.le_refl _) (by omega) (fun j hj => ?_)).mono fun e w' ⟨v', h1, h2, _, h3⟩ => ?_
      · rw [Nat.zero_add]; exact str_cell hcs hj rfl
      · rw [List.take_length] at h2
        obtain ⟨A2, c2, rfl, h4⟩ := key v' w' h2 h3
        exact ⟨A2, c2, h1, h4⟩
end Go.Proofs.Ytpiejdncoeldeaa.Srt
namespace Go.Proofs.Ytpiejdncoeldeaa.Cm
open Go.RowKit Go.Proofs.YtpiejdncoeldeaaW.PrintWords Go.Proofs.YtpiejdncoeldeaaW.PrintLast Go.Proofs.YtpiejdncoeldeaaW.PrintMore Go.Proofs.Ytpiejdncoeldeaa.Bs Go.Proofs.Ytpiejdncoeldeaa.Ord
set_option linter.unusedVariables false
set_option linter.unusedSimpArgs false
theorem bytesLess_turn : ∀ (x y : List UInt8), (Op.bytesLess x y || x == y) = !Op.bytesLess y x
  | [], [] => rfl
  | [], _ :: _ => rfl
  | _ :: _, [] => rfl
  | a :: x, b :: y => by
    have ih := bytesLess_turn x y
    simp only [Op.bytesLess, List.cons_beq_cons]
    rcases Nat.lt_trichotomy a.toNat b.toNat with h | h | h
    · have h1 : a < b := UInt8.lt_iff_toNat_lt.2 h
      have h2 : ¬ b < a := fun hc => by have := UInt8.lt_iff_toNat_lt.1 hc; omega
      have h3 : ¬ b = a := fun hc => by subst hc; omega
      have h4 : ¬ a = b := fun hc => by subst hc; omega
      simp [h1, h2, h3, h4]
    · obtain rfl := UInt8.toNat_inj.1 h
      simp [ih]
    · have h1 : ¬ a < b := fun hc => by have := UInt8.lt_iff_toNat_lt.1 hc; omega
      have h2 : b < a := UInt8.lt_iff_toNat_lt.2 h
      have h4 : ¬ a = b := fun hc => by subst hc; omega
      simp [h1, h2, h4]
theorem bin_gtr (t : TypeId) (a b : ByteArray) : binOp .gtr t (.string a) (.string b) = pure (.bool (Op.bytesLess b.toList a.toList)) := by rw [← Bool.not_not (Op.bytesLess b.toList a.toList), ← bytesLess_turn]; simp [binOp, Op.stringOp]
attribute [local go_sem] bin_gtr
theorem bytesLess_map : ∀ (x y : List UInt8), Op.bytesLess x y = Ord.bl (x.map fun b => (b.toNat : Int)) (y.map fun b => (b.toNat : Int))
  | _, [] => by simp [Op.bytesLess, Ord.bl]
  | [], _ :: _ => rfl
  | a :: x, b :: y => by
    have h1 : decide (a < b) = decide ((a.toNat : Int) < (b.toNat : Int)) := by
      rw [decide_eq_decide, UInt8.lt_iff_toNat_lt]; omega
    have h2 : (a == b) = ((a.toNat : Int) == (b.toNat : Int)) := by
      rw [Bool.eq_iff_iff, beq_iff_eq, beq_iff_eq, ← UInt8.toNat_inj]; omega
    simp only [Op.bytesLess, List.map_cons, Ord.bl]
    rw [h1, h2, bytesLess_map x y]
theorem less_bl (s t : ByteArray) : Op.bytesLess s.toList t.toList = Ord.bl (bytesOf s) (bytesOf t) := by
  rw [bytesLess_map, Lib.toList_data, Lib.toList_data]; rfl
theorem sq_zero (s : ByteArray) : sq (s ++ (⟨#[0]⟩ : ByteArray)) = sq s := by
  unfold sq
  have e : bytesOf (s ++ (⟨#[0]⟩ : ByteArray)) = bytesOf s ++ [0] := by simp [bytesOf]
  rw [e, seq_zero]
theorem size_zero (s : ByteArray) : (s ++ (⟨#[0]⟩ : ByteArray)).size = s.size + 1 := by rw [ByteArray.size_append]; rfl
set_option maxRecDepth 100000 in
set_option maxHeartbeats 1000000 in
theorem ref_cmp_any (a b : ByteArray) (c : Int) (w : World) (ha : a.size ≤ 1000000) (hb : b.size ≤ 1000000) (hc : Cmp (sq a) (sq b) c) :
    Calls Try.prog 10 #[.string a, .string b] w fun e w' => e = .returned (.int .i64 c) ∧ w = w' := by
  have HC := Aside0.mk hc
  have HA := Aside0.mk ha
  have HB := Aside0.mk hb
  clear hc ha hb
  go_enter Try.func10, Try.ntmps10
  go_wp2
  go_loopg [0] b.size (fun gk v0 wr => ∃ x : ByteArray, v0 = .string x ∧ Aside0 (sq x = sq a ∧ x.size ≤ 1000000 ∧ b.size - x.size ≤ gk) ∧ w = wr)
  case atStart => exact ⟨a, rfl, ⟨rfl, HA.out, by omega⟩, rfl⟩
  case round =>
    obtain ⟨x, rfl, HX, rfl⟩ := hrel
    by_cases hlt : x.size < b.size
    · have hd : decide (x.size < b.size) = true := decide_eq_true hlt
      have hz := size_zero x
      have hq : x.size + 1 ≤ 9223372036854775807 := by have := HB.out; omega
      go_wp2
      go_roundg (gk - 1)
      case measure => have := HX.out; omega
      case rel => exact ⟨_, rfl, ⟨(sq_zero x).trans HX.out.1, by rw [hz]; have := HB.out; omega, by rw [hz]; have := HX.out; omega⟩, rfl⟩
    have hd : decide (x.size < b.size) = false := decide_eq_false hlt
    go_wp2
    go_loopg [1] x.size (fun gk v1 wr => ∃ y : ByteArray, v1 = .string y ∧ Aside0 (sq y = sq b ∧ y.size ≤ x.size ∧ x.size - y.size ≤ gk) ∧ w = wr)
    case atStart => exact ⟨b, rfl, ⟨rfl, by omega, by omega⟩, rfl⟩
    case round =>
      clear hd
      obtain ⟨y, rfl, HY, rfl⟩ := hrel
      by_cases hly : y.size < x.size
      · have hd : decide (y.size < x.size) = true := decide_eq_true hly
        have hz := size_zero y
        have hq : y.size + 1 ≤ 9223372036854775807 := by have := HX.out; omega
        go_wp2
        go_roundg (gk - 1)
        case measure => have := HY.out; omega
        case rel => exact ⟨_, rfl, ⟨(sq_zero y).trans HY.out.1, by rw [hz]; omega, by rw [hz]; have := HY.out; omega⟩, rfl⟩
      have hd : decide (y.size < x.size) = false := decide_eq_false hly
      have h1 := bl_cmp (bytesOf x) (bytesOf y) (by rw [bytesOf_length, bytesOf_length]; have := HY.out; omega)
      rw [← less_bl, ← less_bl] at h1
      obtain ⟨p, hp⟩ : ∃ p, Op.bytesLess x.toList y.toList = p := ⟨_, rfl⟩
      obtain ⟨q, hq⟩ : ∃ q, Op.bytesLess y.toList x.toList = q := ⟨_, rfl⟩
      rw [hp, hq] at h1
      have h2 : Cmp (sq a) (sq b) (if p = true then -1 else if q = true then 1 else 0) := by rw [← HX.out.1, ← HY.out.1]; exact h1
      have h3 := HC.out.uniq h2
      have H3 := Aside0.mk h3
      clear h1 h2 h3 hly
      cases p <;> cases q
      all_goals
        go_wp2
        go_ret
        exact ⟨by rw [H3.out]; rfl, rfl⟩
end Go.Proofs.Ytpiejdncoeldeaa.Cm
namespace Go.Proofs.Ytpiejdncoeldeaa.Sl
open Go.RowKit Go.Proofs.YtpiejdncoeldeaaW.PrintWords Go.Proofs.YtpiejdncoeldeaaW.PrintLast Go.Proofs.YtpiejdncoeldeaaW.PrintMore Go.Proofs.Ytpiejdncoeldeaa.Own
section
variable {P : Program} {ops : Array Oper} {Q : Exit → Act → World → Prop} {md : Region.Mode} {S : World → Prop}
theorem at_drop {i : Nat} {oi : Oper} {rest : List Oper} (h : ops.toList.drop i = oi :: rest) : ops[i]? = some oi := by
  have : (ops.toList.drop i)[0]? = some oi := by rw [h]; rfl
  rw [List.getElem?_drop] at this
  simpa using this
theorem tk (i : Nat) {oi : Oper} {rest : List Oper} {v : Value} {fuel : Nat} {listed : Array Bool} {a : Act} {w : World} (hi : ops.toList.drop i = oi :: rest)
    (hs : Region.noSelect ops = true) (hf : Region.free md ops listed i = true) (hr : (Region.ready md ops listed).contains i = true)
    (hQ : ∀ c a w, Q (.panic c) (a.put oi.dst v) w → Q (.panic c) a w) (hS : S w) (hy : YieldsIf P ops S oi v a)
    (h : wpAnyH P md ops Q S fuel (listed.setIfInBounds i true) (a.put oi.dst v) w) : wpAnyH P md ops Q S (fuel + 1) listed a w :=
  wpAnyH_take (at_drop hi) hs hf hr hQ hy hS h
theorem alone (i : Nat) {o : Oper} {rest : List Oper} {fuel : Nat} {listed : Array Bool} {a : Act} {w : World} (hi : ops.toList.drop i = o :: rest) (hr : Region.ready md ops listed = [i]) (hg : Region.wanted o (yielded ops a.tmps) = true)
    (h : ∀ K' : Act → World → Prop, Shut (∀ a w, S w → (S w → wpAnyH P md ops Q S fuel (listed.setIfInBounds i true) a w) → K' a w) → Oper.wp P o a w K' Q) : wpAnyH P md ops Q S (fuel + 1) listed a w :=
  wpAnyH_ready hr (by simp) (AllReadyH.cons (at_drop hi) (fun K hK => by rw [if_pos hg]; exact h K hK) AllReadyH.nil)
theorem aloneL (i : Nat) {o : Oper} {rest : List Oper} {fuel : Nat} {listed : Array Bool} {a : Act} {w : World} (hi : ops.toList.drop i = o :: rest) (hr : Region.ready md ops listed = [i])
    (h : ∀ K' : Act → World → Prop, Shut (∀ a w, S w → (S w → wpAnyH P md ops Q S fuel (listed.setIfInBounds i true) a w) → K' a w) → wpList P ops (QK K') [o] a w) : wpAnyH P md ops Q S (fuel + 1) listed a w :=
  wpAnyH_ready hr (by simp) (AllReadyH.cons (at_drop hi) (fun K hK => step_list (h K hK)) AllReadyH.nil)
end
end Go.Proofs.Ytpiejdncoeldeaa.Sl
namespace Go.Proofs.Ytpiejdncoeldeaa.Wr
open Go.RowKit Go.Proofs.YtpiejdncoeldeaaW.PrintWords Go.Proofs.YtpiejdncoeldeaaW.PrintLast Go.Proofs.YtpiejdncoeldeaaW.PrintMore Go.Proofs.Ytpiejdncoeldeaa.Own Go.Proofs.Ytpiejdncoeldeaa.Sl
set_option linter.unusedVariables false
set_option linter.unusedSimpArgs false
theorem infoS : (Try.prog.info? 9).map (fun i => (i.zero, i.size, i.bytes)) = some (some (.string ByteArray.empty), 1, 16) := by kernel_rfl
theorem str_cell {W : World} {ad : Addr} {l : List ByteArray} {n i : Nat} {s : ByteArray} (h : Kd.C Kd.string W (some ad) n l) (hs : l[i]? = some s) : W.cell? (ad.add i) = some (.string s) := by
  obtain ⟨hi, he⟩ := List.getElem?_eq_some_iff.1 hs
  have hn := h.1
  obtain ⟨ad2, e, hx⟩ := Kd.at_string h (i : Int) (by omega) (by omega)
  cases e
  have e2 : rdOf ByteArray.empty l (i : Int) = s := by simp [rdOf, hi, he]
  rw [e2] at hx
  simpa using hx
end Go.Proofs.Ytpiejdncoeldeaa.Wr
