/- What a call on a state turns: the blocks of its own (a set of blocks), and what is new. -/
import Derived.Test.YtpiejdncoeldeaaWMore
import Derived.Test.YtpiejdncoeldeaaWNEv
import Derived.Laws.CopyRow
import Derived.Great.BuildSlice
import Derived.Laws.Tables
namespace Go.Proofs.Ytpiejdncoeldeaa.Own
open Go.RowKit Go.Proofs.YtpiejdncoeldeaaW.PrintWords Go.Proofs.YtpiejdncoeldeaaW.PrintLast Go.Proofs.YtpiejdncoeldeaaW.PrintMore
set_option linter.unusedVariables false

/-- Of what w has nothing but the blocks of S has turned. -/
structure Upd (S : Nat → Prop) (w W : World) : Prop where
  os : W.os = w.os
  tape : W.tape = w.tape
  output : W.output = w.output
  size : w.heap.size ≤ W.heap.size
  block : ∀ k, k < w.heap.size → ¬ S k → W.heap[k]? = w.heap[k]?
/-- The blocks of S, and what is new since w. -/
def New (w : World) (S : Nat → Prop) : Nat → Prop := fun k => S k ∨ w.heap.size ≤ k
def None0 : Nat → Prop := fun _ => False
section
variable {S S' T : Nat → Prop} {w W W2 : World}
theorem Upd.refl (S : Nat → Prop) (w : World) : Upd S w w := ⟨rfl, rfl, rfl, Nat.le_refl _, fun _ _ _ => rfl⟩
theorem Upd.of_below (h : Below w.heap.size w W) : Upd S w W := ⟨h.os, h.tape, h.output, h.size, fun k hk _ => h.block k hk⟩
theorem Upd.below (h : Upd S w W) (hS : ∀ k, k < w.heap.size → ¬ S k) : Below w.heap.size w W := ⟨h.os, h.tape, h.output, h.size, fun k hk => h.block k hk (hS k hk)⟩
theorem Upd.below0 (h : Upd None0 w W) : Below w.heap.size w W := h.below (fun _ _ h => h)
theorem Upd.mono (h : Upd S w W) (hs : ∀ k, S k → S' k) : Upd S' w W := ⟨h.os, h.tape, h.output, h.size, fun k hk hn => h.block k hk (fun e => hn (hs k e))⟩
theorem Upd.trans (h : Upd S w W) (k : Upd T W W2) (hT : ∀ k, T k → S k ∨ w.heap.size ≤ k) : Upd S w W2 :=
  ⟨k.os.trans h.os, k.tape.trans h.tape, k.output.trans h.output, Nat.le_trans h.size k.size, fun i hi hn => (k.block i (Nat.lt_of_lt_of_le hi h.size) (fun e => (hT i e).elim hn (fun e2 => by omega))).trans (h.block i hi hn)⟩
theorem Upd.alloc (h : Upd S w W) (o : Obj) : Upd S w (W.alloc o) := h.trans (Upd.of_below (S := None0) (below_alloc (Below.refl _ _) o)) (fun _ e => e.elim)
theorem Upd.drew (h : Upd S w W) : Upd S w W.drew := ⟨h.os, h.tape, h.output, h.size, h.block⟩
theorem Upd.drewN (h : Upd S w W) (n : Nat) : Upd S w (W.drewN n) := ⟨h.os, h.tape, h.output, h.size, h.block⟩
theorem Upd.setCell (h : Upd S w W) {g j : Nat} (hg : S g ∨ w.heap.size ≤ g) (v : Value) : Upd S w (W.setCell ⟨g, j, none⟩ v) :=
  ⟨h.os, h.tape, h.output, by simpa [World.setCell] using h.size, fun k hk hn => (Below.heap_setCell W ⟨g, j, none⟩ v k (fun e => by
    have e : k = g := e
    subst e
    exact hg.elim hn (fun e2 => by omega))).trans (h.block k hk hn)⟩
theorem Upd.grown {row : Option Nat} (hg : W.grownBy W2 row) (hr : ∀ k, row = some k → S k) : Upd S W W2 := ⟨hg.os, hg.tape, hg.output, hg.size, fun k hk hn => hg.block k hk (fun e => hn (hr k e.symm))⟩
theorem Upd.blk (h : Upd S w W) {g : Nat} {o : Obj} (hb : w.heap[g]? = some o) (hg : ¬ S g) : W.heap[g]? = some o := (h.block g (blk_lt hb) hg).trans hb
theorem Upd.step (h : Upd S w W) (hT : ∀ k, T k → ¬ S k) : ∀ k, T k → k < w.heap.size → W.heap[k]? = w.heap[k]? := fun k hk hlt => h.block k hlt (hT k hk)
theorem New.old {k : Nat} (h : S k) : New w S k := .inl h
theorem New.mono (hs : ∀ k, S k → S' k) : ∀ k, New w S k → New w S' k := fun k h => h.imp (hs k) id
theorem New.later (h : w.heap.size ≤ W.heap.size) : ∀ k, New W (New w S) k → New w S k := fun k hk => hk.elim id (fun e => .inr (Nat.le_trans h e))
theorem New.fresh (k : Nat) (h : w.heap.size ≤ k) : New w S k := .inr h
end
theorem reps_one {α : Type} {R : α → List Value → Prop} {size : Nat} {p : α} {c : List Value} (h : R p c) (hc : c.length = size) : Reps R size [p] c := by
  have := (Reps.none R size).snoc h hc
  simpa using this
section
variable {α : Type} {d : Kd α} {e : Nat} {w W : World} {S T S' : Nat → Prop} {v : Value} {xs : List α}
/-- A row of the state's own: in the blocks of T. -/
theorem row_upd (h : d.R e w 0 T v xs) (hu : Upd S w W) (hd : ∀ k, T k → ¬ S k) : d.R e W 0 T v xs := Kd.R_step h (hu.step hd)
theorem row_mono (h : d.R e w 0 T v xs) (hs : ∀ k, T k → S k) : d.R e w 0 S v xs := Kd.R_mono h hs
/-- Another block (of another type) is written. -/
theorem row_updT (h : d.R e w 0 T v xs) {g t : Nat} {cells : Array Value} (hb : w.heap[g]? = some (.cells cells t (0, 0))) (ht : ∀ q, q ∈ e :: d.E → q ≠ t) (hu : Upd (fun k => k = g) w W) : d.R e W 0 T v xs :=
  row_mono (row_upd (Kd.R_types h hb ht) hu (fun k hk => hk.2)) (fun k hk => hk.1)
/-- Another row (of other types) is written. -/
theorem row_updR {β : Type} {d' : Kd β} {e' : Nat} {v' : Value} {ys : List β} {T' : Nat → Prop} (h : d.R e w 0 T v xs) (h' : d'.R e' w 0 T' v' ys) (ht : ∀ q, q ∈ e :: d.E → q ≠ e') (hu : Upd (fun k => some k = v'.ownBlock) w W) : d.R e W 0 T v xs :=
  row_mono (row_upd (Kd.R_apartR h h' ht) hu (fun k hk => hk.2)) (fun k hk => hk.1)
def BlkT (w : World) (g t : Nat) : Prop := ∃ cs, w.heap[g]? = some (.cells cs t (0, 0))
theorem BlkT.set {g t : Nat} (h : BlkT w g t) (i : Nat) (u : Value) : BlkT (w.setCell ⟨g, i, none⟩ u) g t := by
  obtain ⟨cs, h⟩ := h
  exact ⟨_, blk_set h i u⟩
theorem BlkT.drew {g t : Nat} (h : BlkT w g t) : BlkT w.drew g t := h
theorem row_setT {g t : Nat} (h : d.R e w 0 T v xs) (hb : BlkT w g t) (ht : ∀ q, q ∈ e :: d.E → q ≠ t) (i : Nat) (u : Value) : d.R e (w.setCell ⟨g, i, none⟩ u) 0 T v xs := by
  obtain ⟨cs, hb⟩ := hb
  exact Kd.R_set h hb ht i u
theorem row_at (h : d.R e w 0 T v xs) {k : Nat} (hk : some k = v.ownBlock) : T k := h.1 k hk.symm
/-- A row of new blocks alone, told with a base. -/
theorem row_raise (hM : ∀ (w : World) (b b' : Nat) (o o' : Nat → Prop) (x : α) (cs : List Value), d.M w b o x cs → d.M w b' o' x cs) {base : Nat} (h : d.R e w 0 S v xs) (hS : ∀ k, S k → base ≤ k) : d.R e w base (fun _ => True) v xs := by
  obtain ⟨h0, inner, ho, hr⟩ := h
  refine ⟨fun _ _ => trivial, inner, ⟨ho.1, ?_⟩, hr.imp_ (fun _ _ hp => hM _ _ _ _ _ _ _ hp)⟩
  rcases ho.2 with h2 | ⟨g, cap, cur, rfl, hg, rest⟩
  · exact .inl h2
  · exact .inr ⟨g, cap, cur, rfl, hS g (h0 g (by simp [Value.ownBlock])), rest⟩
/-- A new block is a row. -/
theorem row_alloc (d : Kd α) (W : World) (e : Nat) {xs : List α} {inner : List Value} (hrep : Reps (d.M W 0 (fun _ => False)) d.sz xs inner) (hm : xs.length ≤ 9223372036854775807) :
    d.R e (W.alloc (.cells inner.toArray e)) 0 (New W None0) (.slice (some ⟨W.heap.size, 0, none⟩) xs.length xs.length) xs := by
  refine ⟨fun k hk => ?_, inner, ?_, ?_⟩
  · have : W.heap.size = k := by simpa [Value.ownBlock] using hk
    subst this
    exact .inr (Nat.le_refl _)
  · have h2 := World.ownsRow_lit (base := 0) (e := e) (size := d.sz) W inner.toArray xs.length (Nat.zero_le _) (by simpa [maxLen] using hm) (by simpa using hrep.1)
    simpa using h2
  · refine hrep.imp_ (fun p c hp => d.M_mono (fun k hk => hk.1.elim) (Kd.M_below (d.M_bound hp) (below_alloc (Below.refl _ _) _)))
/-- .. and those of T that w has. -/
theorem row_old (h : d.R e w 0 T v xs) : d.R e w 0 (fun k => T k ∧ k < w.heap.size) v xs := Kd.R_mono (Kd.R_bound h) (fun k hk => ⟨hk.1, hk.2.2.1⟩)
end
/-- The blocks of S that w has, of some types. -/
def Bnd (w : World) (E : List Nat) (S : Nat → Prop) : Nat → Prop := fun k => S k ∧ k < w.heap.size ∧ ∃ q, q ∈ E ∧ ∃ cells, w.heap[k]? = some (.cells cells q (0, 0))
theorem Bnd.ne {w : World} {E : List Nat} {S : Nat → Prop} {g t : Nat} {cs : Array Value} (hb : w.heap[g]? = some (.cells cs t (0, 0))) (ht : ∀ q, q ∈ E → q ≠ t) : ¬ Bnd w E S g := by
  rintro ⟨_, _, q, hq, cells, hc⟩
  rw [hb] at hc
  injection hc with hc
  injection hc with _ hc
  exact ht q hq hc.symm
theorem Bnd.ne_one {w : World} {E : List Nat} {S : Nat → Prop} {g t : Nat} {cs : Array Value} (hb : w.heap[g]? = some (.cells cs t (0, 0))) (ht : ∀ q, q ∈ E → q ≠ t) : ∀ k, Bnd w E S k → ¬ k = g := by
  rintro k hk rfl
  exact Bnd.ne hb ht hk
theorem Bnd.ne_row {α : Type} {d : Kd α} {e : Nat} {T : Nat → Prop} {v : Value} {xs : List α} {w : World} {E : List Nat} {S : Nat → Prop} (hr : d.R e w 0 T v xs) (ht : ∀ q, q ∈ E → q ≠ e) : ∀ k, Bnd w E S k → ¬ some k = v.ownBlock := by
  intro k hk he
  obtain ⟨inner, ho⟩ := Kd.R_own hr
  obtain ⟨cells, hc⟩ := own_typed ho k he.symm
  exact Bnd.ne hc ht hk
theorem bnd_apart {w : World} {E E' : List Nat} {S T : Nat → Prop} (hE : ∀ q, q ∈ E → q ∉ E') {k : Nat} (h1 : Bnd w E S k) (h2 : Bnd w E' T k) : False := by
  obtain ⟨_, _, q, hq, cells, hc⟩ := h1
  obtain ⟨_, _, q', hq', cells', hc'⟩ := h2
  rw [hc] at hc'
  injection hc' with hc'
  injection hc' with _ hc'
  exact hE q hq (hc' ▸ hq')
theorem Bnd.of {w : World} {E : List Nat} {S : Nat → Prop} : ∀ k, Bnd w E S k → S k := fun k h => h.1
theorem Bnd.row {α : Type} {d : Kd α} {e : Nat} {T : Nat → Prop} {v : Value} {xs : List α} {w : World} {E : List Nat} (h : d.R e w 0 T v xs) (hE : ∀ q, q ∈ e :: d.E → q ∈ E) : d.R e w 0 (Bnd w E T) v xs :=
  Kd.R_mono (Kd.R_bound h) (fun k hk => ⟨hk.1, hk.2.2.1, by obtain ⟨q, hq, hc⟩ := hk.2.2.2; exact ⟨q, hE q hq, hc⟩⟩)
theorem Bnd.blk {w : World} {E : List Nat} {S : Nat → Prop} {g t : Nat} {cs : Array Value} (hg : S g) (hb : w.heap[g]? = some (.cells cs t (0, 0))) (ht : t ∈ E) : Bnd w E S g := ⟨hg, blk_lt hb, t, ht, cs, hb⟩
theorem Bnd.mono {w : World} {E E' : List Nat} {S S' : Nat → Prop} (hs : ∀ k, S k → S' k) (hE : ∀ q, q ∈ E → q ∈ E') : ∀ k, Bnd w E S k → Bnd w E' S' k := fun k h => ⟨hs k h.1, h.2.1, by obtain ⟨q, hq, hc⟩ := h.2.2; exact ⟨q, hE q hq, hc⟩⟩
section
variable {P : Program} {ops : Array Oper} {rest : List Oper} {o : Oper} {a : Act} {Q : Exit → Act → World → Prop} {α : Type}
/-- append(v, x) of one element without rows inside, behind 'at_builtin': what it leaves. -/
theorem row_append (d : Kd α) {W : World} {S : Nat → Prop} (hgd : o.guard = none) (s x : Operand) (t e : TypeId) (z : Value) (bytes : Nat)
    (ho : o.op = .call { callee := .builtin .append, args := #[s, x], argTypes := #[t, t] })
    (ht : P.underlying t = some (.slice e)) (hinfo : (P.info? e).map (fun i => (i.zero, i.size, i.bytes)) = some (some z, d.sz, bytes)) (hz : z.cells.size = d.sz) (hs0 : 0 < d.sz) (hb0 : 0 < bytes)
    (v : Value) (xs : List α) (p : α) (cs : List Value) (hs : a.eval s = v) (hx : a.eval x = .slice (some ⟨W.heap.size, 0, none⟩) 1 1) (hp : d.M W 0 (fun _ => False) p cs)
    (HO : d.R e W 0 S v xs) (hl : (xs.length + 1) * bytes ≤ 140737488355328) (ys : List α) (hy : xs ++ [p] = ys)
    (h : ∀ v1 w1, d.R e w1 0 (New W S) v1 ys → Upd (fun k => some k = v.ownBlock) W w1 → wpList P ops Q rest (a.put o.dst v1) w1) :
    wpList P ops Q (o :: rest) a (W.alloc (.cells cs.toArray e)) := by
  refine Kd.R_append d (w0 := W) 0 hgd s x t e z bytes ho ht hinfo hz hs0 hb0 v xs p cs (New W S) (fun _ => False) hs hx hp (fun _ h => h.elim) (fun k hk => .inr hk) (row_mono HO (fun _ h => .inl h)) ⟨rfl, rfl, rfl, Nat.le_refl _, fun _ _ => rfl⟩ (Nat.zero_le _) hl ?_
  intro v1 w1 h1 _ hg hat
  subst hy
  exact h v1 w1 h1 (Upd.grown hg (fun k hk => hk.symm))
end
section
variable {P : Program} {ops : Array Oper} {o : Oper} {a : Act} {Q : Exit → Act → World → Prop} {Kc : Act → World → Prop} {α : Type}
/-- The same as a step of a region that draws. -/
theorem row_append_step (d : Kd α) {W : World} {S : Nat → Prop} (hw : Region.wanted o (yielded ops a.tmps) = true) (s x : Operand) (t e : TypeId) (z : Value) (bytes : Nat)
    (ho : o.op = .call { callee := .builtin .append, args := #[s, x], argTypes := #[t, t] })
    (ht : P.underlying t = some (.slice e)) (hinfo : (P.info? e).map (fun i => (i.zero, i.size, i.bytes)) = some (some z, d.sz, bytes)) (hz : z.cells.size = d.sz) (hs0 : 0 < d.sz) (hb0 : 0 < bytes)
    (v : Value) (xs : List α) (p : α) (cs : List Value) (hs : a.eval s = v) (hx : a.eval x = .slice (some ⟨W.heap.size, 0, none⟩) 1 1) (hp : d.M W 0 (fun _ => False) p cs)
    (HO : d.R e W 0 S v xs) (hl : (xs.length + 1) * bytes ≤ 140737488355328) (ys : List α) (hy : xs ++ [p] = ys)
    (h : ∀ v1 w1, d.R e w1 0 (New W S) v1 ys → Upd (fun k => some k = v.ownBlock) W w1 → Kc (a.put o.dst v1) w1) :
    if Region.wanted o (yielded ops a.tmps) = true then Oper.wp P o a (W.alloc (.cells cs.toArray e)) Kc Q else Kc (a.put o.dst undef) (W.alloc (.cells cs.toArray e)) := by
  refine Kd.R_append_step d (w0 := W) 0 hw s x t e z bytes ho ht hinfo hz hs0 hb0 v xs p cs (New W S) (fun _ => False) hs hx hp (fun _ h => h.elim) (fun k hk => .inr hk) (row_mono HO (fun _ h => .inl h)) ⟨rfl, rfl, rfl, Nat.le_refl _, fun _ _ => rfl⟩ (Nat.zero_le _) hl ?_
  intro v1 w1 h1 _ hg hat
  subst hy
  exact h v1 w1 h1 (Upd.grown hg (fun k hk => hk.symm))
end
section
variable {P : Program} {ops : Array Oper} {rest : List Oper} {o : Oper} {a : Act} {Q : Exit → Act → World → Prop} {α : Type}
/-- A literal of elements without rows inside. -/
theorem row_lit (d : Kd α) {W : World} (e : Nat) (hgd : o.guard = none) {N : Tmp} (hd : o.dst = some N) {xs : List α} {inner : List Value}
    (hrun : (execOp a.eval o).run P W = .ok (.value (.slice (some ⟨W.heap.size, 0, none⟩) xs.length xs.length)) (W.alloc (.cells inner.toArray e)))
    (hrep : Reps (d.M W 0 (fun _ => False)) d.sz xs inner) (hm : xs.length ≤ 9223372036854775807)
    (h : ∀ v1 w1, d.R e w1 0 (New W None0) v1 xs → Upd None0 W w1 → wpList P ops Q rest (a.put o.dst v1) w1) : wpList P ops Q (o :: rest) a W := by
  refine Kd.R_lit d (w0 := W) 0 e hgd hd (ok := New W None0) hrun hrep (fun _ h => h.elim) (.inr (Nat.le_refl _)) ⟨rfl, rfl, rfl, Nat.le_refl _, fun _ _ => rfl⟩ (Nat.zero_le _) hm ?_
  intro v1 w1 h1 _ hg _
  exact h v1 w1 h1 (Upd.grown hg (fun k hk => by cases hk))
/-- append(v, l...), l a row without rows inside: what it leaves. -/
theorem row_append_rows (d : Kd α) {W : World} {S : Nat → Prop} (hgd : o.guard = none) (s x : Operand) (t e : TypeId) (z : Value) (bytes : Nat)
    (ho : o.op = .call { callee := .builtin .append, args := #[s, x], argTypes := #[t, t] })
    (ht : P.underlying t = some (.slice e)) (hinfo : (P.info? e).map (fun i => (i.zero, i.size, i.bytes)) = some (some z, d.sz, bytes)) (hz : z.cells.size = d.sz) (hs0 : 0 < d.sz) (hb0 : 0 < bytes)
    (v : Value) (xs ys : List α) (A : Option Addr) (m c : Nat) (hs : a.eval s = v) (hx : a.eval x = .slice A m c)
    (HO : d.R e W 0 S v xs) (HR : d.C W A m ys) (hKM : ∀ x cs, d.K W x cs → d.M W 0 (fun _ => False) x cs) (hl : (xs.length + m) * bytes ≤ 140737488355328)
    (zs : List α) (hy : xs ++ ys = zs) (h : ∀ v1 w1, d.R e w1 0 (New W S) v1 zs → Upd (fun k => some k = v.ownBlock) W w1 → wpList P ops Q rest (a.put o.dst v1) w1) :
    wpList P ops Q (o :: rest) a W := by
  refine Kd.R_append_rows d (Rr := d.K W) (w0 := W) 0 hgd s x t e z bytes ho ht hinfo hz hs0 hb0 v xs ys A m c (New W S) (fun _ => False) hs hx (row_mono HO (fun _ h => .inl h)) HR hKM (fun _ h => h.elim) (fun k hk => .inr hk) ⟨rfl, rfl, rfl, Nat.le_refl _, fun _ _ => rfl⟩ (Nat.zero_le _) hl ?_
  intro v1 w1 h1 _ hg hat
  subst hy
  exact h v1 w1 h1 (Upd.grown hg (fun k hk => hk.symm))
end
section
variable {P : Program} {ops : Array Oper} {rest : List Oper} {o : Oper} {a : Act} {Q : Exit → Act → World → Prop}
theorem upd_setRow (W : World) (g : Nat) (cs : Array Value) : Upd (fun k => k = g) W (W.setRow g cs) := ⟨rfl, rfl, rfl, by simp [World.setRow], fun k _ hk => setRow_other W g k cs hk⟩
/-- A whole block is written anew. -/
theorem rowput {W : World} (hgd : o.guard = none) (ty : TypeId) (x y : Operand) (ho : o.op = .store ty x y) (hd : o.dst = none) (g : Nat) (cells : Array Value) (hx : a.eval x = .pointer (some ⟨g, 0, none⟩)) (hy : a.eval y = .agg cells)
    (t : TypeId) (old : Array Value) (hg : W.heap[g]? = some (.cells old t (0, 0))) (hi : (P.info? ty).map (·.size) = some cells.size) (hold : old.size = cells.size) (h1 : cells.all (·.oneCell') = true)
    (h : ∀ w', w'.heap[g]? = some (.cells cells t (0, 0)) → Upd (fun k => k = g) W w' → wpList P ops Q rest a w') : wpList P ops Q (o :: rest) a W :=
  wpList_store_row hgd ty x y ho g cells hx hy t old hg hi hold h1 (by
    have e : a.put o.dst undef = a := by rw [hd]; rfl
    rw [e]
    exact h _ (setRow_heap W g old cells t (0, 0) hg) (upd_setRow W g cells))
/-- A field of a block is written. -/
theorem cellput {W : World} (hgd : o.guard = none) (ty : TypeId) (x y : Operand) (ho : o.op = .store ty x y) (hd : o.dst = none) (g i : Nat) (v : Value) (hx : a.eval x = .pointer (some ⟨g, i, none⟩)) (hy : a.eval y = v)
    (t : TypeId) (old new : Array Value) (hg : W.heap[g]? = some (.cells old t (0, 0))) (hi : (P.info? ty).map (·.size) = some 1) (hlt : i < old.size) (h1 : v.oneCell' = true) (hn : old.setIfInBounds i v = new)
    (h : ∀ w', w'.heap[g]? = some (.cells new t (0, 0)) → Upd (fun k => k = g) W w' → wpList P ops Q rest a w') : wpList P ops Q (o :: rest) a W := by
  refine wpList_plain hgd fun K hK => ?_
  have hcell : W.cell? ⟨g, i, none⟩ = some old[i] := by rw [cell_of_row W g i old t (0, 0) hg, Array.getElem?_eq_getElem hlt]
  have hfro : W.frozen? ⟨g, i, none⟩ = false := frozen_of_row W g i old t hg
  have hadd : (⟨g, i, none⟩ : Addr).add 0 = ⟨g, i, none⟩ := rfl
  have hst : (store ((⟨g, i, none⟩ : Addr).add 0) v).run P W = .ok () (W.setCell ⟨g, i, none⟩ v) := by
    rw [hadd, run_store P W _ v _ h1, hcell]
    simp [hfro]
  have hc : v.cells = #[v] := by cases v <;> first | rfl | cases h1
  have hsv : (storeVar ty ⟨g, i, none⟩ v).run P W = .ok () (W.setCell ⟨g, i, none⟩ v) := by
    cases hq : P.info? ty with
    | none => simp [hq] at hi
    | some j =>
      have hs : j.size = 1 := by simpa [hq] using hi
      simp [storeVar, sizeOf, typeInfo, hq, hc, hs, storeCells, hst]
  unfold Oper.wp execOp
  simp only [ho, hx, hy, Instr.storeAt, Instr.sureAddr, Sem.run_bind, Sem.run_pure, Result.andThen_ok, hsv]
  refine hK _ _ ?_
  have e : a.put o.dst undef = a := by rw [hd]; rfl
  rw [e]
  refine h _ (blk_put hg i v hn) ?_
  rw [setCell_eq_setRow W g i old t (0, 0) v hg]
  exact upd_setRow W g _
/-- A new block. -/
theorem boxnew {W : World} (hgd : o.guard = none) {N : Tmp} (hd : o.dst = some N) {cs : Array Value} {t : TypeId}
    (hrun : (execOp a.eval o).run P W = .ok (.value (.pointer (some ⟨W.heap.size, 0, none⟩))) (W.alloc (.cells cs t (0, 0))))
    (h : ∀ g, W.heap.size ≤ g → ∀ w1, w1.heap[g]? = some (.cells cs t (0, 0)) → Upd None0 W w1 → wpList P ops Q rest (a.put o.dst (.pointer (some ⟨g, 0, none⟩))) w1) : wpList P ops Q (o :: rest) a W :=
  box_event hgd hd hrun (fun g hg w1 hb hl => h g (by omega) w1 hb (Upd.of_below hl))
theorem blk_fresh {W : World} {g g' : Nat} {o : Obj} (hb : W.heap[g]? = some o) (h : W.heap.size ≤ g') : g ≠ g' := fun e => by have := blk_lt hb; omega
end
/-- A world a little later: nothing old is written. By instances: what a draw or a new block behind it leaves. -/
abbrev Lt (a b : World) : Prop := Nonempty (PLift (Upd None0 a b))
theorem Lt.u {a b : World} (h : Lt a b) : Upd None0 a b := h.elim (fun q => q.down)
instance lt_refl (a : World) : Lt a a := ⟨⟨Upd.refl _ a⟩⟩
instance lt_drew (a b : World) [h : Lt a b] : Lt a b.drew := ⟨⟨(Lt.u h).drew⟩⟩
instance lt_drewN (a b : World) (n : Nat) [h : Lt a b] : Lt a (b.drewN n) := ⟨⟨(Lt.u h).drewN n⟩⟩
instance lt_alloc (a b : World) (o : Obj) [h : Lt a b] : Lt a (b.alloc o) := ⟨⟨(Lt.u h).alloc o⟩⟩
theorem lu {a b : World} [h : Lt a b] : Upd None0 a b := Lt.u h
theorem bl {a b : World} [h : Lt a b] {g : Nat} {o : Obj} (hb : Aside0 (a.heap[g]? = some o)) : b.heap[g]? = some o := (Lt.u h).blk hb.out (fun h => h)
theorem rl {a b : World} [h : Lt a b] {α : Type} {d : Kd α} {e : Nat} {S : Nat → Prop} {v : Value} {xs : List α} (hr : Aside0 (d.R e a 0 S v xs)) : d.R e b 0 S v xs := row_upd hr.out (Lt.u h) (fun k hk h => h.elim)
theorem ul {a b w : World} [h : Lt a b] {S : Nat → Prop} (hu : Aside0 (Upd S w a)) : Upd S w b := hu.out.trans (Lt.u h) (fun _ h => h.elim)
/-- A cell of a block. -/
theorem co {w : World} {g : Nat} {cs : Array Value} {t : Nat} (h : Aside0 (w.heap[g]? = some (.cells cs t (0, 0)))) (i : Nat) (v : Value) (hv : cs[i]? = some v) : w.cell? ⟨g, i, none⟩ = some v := (blk_cell h.out i).trans hv
end Go.Proofs.Ytpiejdncoeldeaa.Own
