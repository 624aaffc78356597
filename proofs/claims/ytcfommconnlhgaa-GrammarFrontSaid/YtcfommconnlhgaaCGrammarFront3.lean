/- What the row of GrammarFront stands on, made small by a program of this session (pack.py). -/
import Derived.BigQuiet
import Derived.Great.BuildSlice
import Derived.KernelRfl
import Derived.Laws.BitsLemmas
import Derived.Laws.CopyRow
import Derived.Laws.Tables
import Derived.Lib.Bytes
import Derived.Shelf.Small.Strs
import Derived.Shelf.Strings.Search1
import Derived.Test.YtcfommconnlhgaaProg
import Derived.WalkKit
import Derived.Test.YtcfommconnlhgaaCGrammarFront0
import Derived.Test.YtcfommconnlhgaaCGrammarFront2
namespace Go.Proofs.Ytcfommconnlhgaa.Nm
def Bytes (l : List Int) : Prop := ∀ b, b ∈ l → 0 ≤ b ∧ b < 256
def pn : Nat → Int → List Int
 | 0, v => [v % 256]
 | n + 1, v => if v > 127 ∨ v < -128 then pn n (v / 256) ++ [v % 256] else [v % 256]
def sb (b : Int) : Int := if b > 127 then b - 256 else b
def fo (v : Int) : List Int → Int
 | [] => v
 | b :: r => fo (256 * v + b) r
def sv : List Int → Int
 | [] => 0
 | b :: r => fo (sb b) r
def Least : List Int → Prop
 | a :: b :: _ => ¬ (a = 0 ∧ b < 128) ∧ ¬ (a = 255 ∧ 128 ≤ b)
 | _ => True
def Fits : Nat → Int → Prop
 | 0, v => -128 ≤ v ∧ v ≤ 127
 | n + 1, v => Fits n (v / 256)
inductive Le : List Int → List Int → Prop
 | nil : Le [] []
 | same (a : Int) {x y : List Int} : Le x y → Le (a :: x) (a :: y)
 | less {a b : Int} {x y : List Int} : a < b → Le (a :: x) (b :: y)
theorem Le.refl : ∀ l, Le l l
 | [] => .nil
 | a :: l => .same a (Le.refl l)
theorem Le.snoc {x y : List Int} (h : Le x y) (hl : x.length = y.length) (hne : x ≠ y) (a b : Int) : Le (x ++ [a]) (y ++ [b]) := by
 induction h with
 | nil => exact absurd rfl hne
 | same c h ih =>
   refine .same c (ih (by simpa using hl) ?_)
   intro he; exact hne (by rw [he])
 | less h => exact .less h
end Go.Proofs.Ytcfommconnlhgaa.Nm
namespace Go.Proofs.Ytcfommconnlhgaa.Bs
open RowKit YtcfommconnlhgaaW.PrintWords YtcfommconnlhgaaW.PrintLast YtcfommconnlhgaaW.PrintMore
set_option linter.unusedVariables false
def Bytes (l : List Int) : Prop := ∀ b, b ∈ l → 0 ≤ b ∧ b < 256
theorem w64 {x : Int} (h0 : -9223372036854775808 ≤ x) (h1 : x ≤ 9223372036854775807) : wrap64 x = x := by unfold wrap64; omega
theorem wraps_i64 (n : Int) (h₀ : 0 ≤ n) (h₁ : n < 2 ^ 62) : IntKind.i64.wrap n = n := by rw [IntKind.wrap_i64]; omega
theorem bytes_of (s : ByteArray) : Bytes (bytesOf s) := by
  intro b hb
  simp only [bytesOf, List.mem_map] at hb
  obtain ⟨u, _, rfl⟩ := hb
  have := u.toNat_lt
  omega
theorem bytesOf_nums (l : List Int) (h : Bytes l) : bytesOf (strOfNums l) = l := by
  unfold bytesOf
  rw [strOfNums_data, List.map_map]
  conv => rhs; rw [← List.map_id l]
  apply List.map_congr_left
  intro x hx
  have := h x hx
  simp only [Function.comp, id]
  rw [UInt8.toNat_ofNat_of_lt' (by have : x.toNat < 256 := by omega
                                   simpa [UInt8.size] using this)]
  omega
theorem bytesOf_append (a b : ByteArray) : bytesOf (a ++ b) = bytesOf a ++ bytesOf b := by
  simp [bytesOf, ByteArray.data_append]
theorem bytesOf_inj {a b : ByteArray} (h : bytesOf a = bytesOf b) : a = b := by
  have h' : a.data.toList = b.data.toList := by
    unfold bytesOf at h
    refine List.map_inj_right (fun x y hxy => ?_) |>.1 h
    have : x.toNat = y.toNat := by omega
    exact UInt8.toNat_inj.1 this
  exact ByteArray.ext (Array.ext' h')
theorem bytesOf_front (s : ByteArray) (n : Nat) : bytesOf (s.extract 0 n) = (bytesOf s).take n := by
  simp [bytesOf, ByteArray.data_extract, List.map_take]
theorem toList_beq (a b : ByteArray) : (a.toList == b.toList) = (bytesOf a == bytesOf b) := by
  rw [Bool.eq_iff_iff, beq_iff_eq, beq_iff_eq, Lib.toList_data, Lib.toList_data]
  constructor
  · intro h; simp [bytesOf, h]
  · intro h; rw [bytesOf_inj h]
theorem drop_at (s : ByteArray) (i : Int) (h0 : 0 ≤ i) (h1 : i < s.size) : (bytesOf s).drop i.toNat = bt s i :: (bytesOf s).drop (i + 1).toNat := by
  have hl : i.toNat < (bytesOf s).length := by rw [bytesOf_length]; omega
  rw [List.drop_eq_getElem_cons hl, show (i + 1).toNat = i.toNat + 1 by omega, ← rd_bytesOf, rd, List.getD_eq_getElem?_getD, List.getElem?_eq_getElem hl]
  rfl
theorem drop_end (s : ByteArray) (i : Int) (h1 : (s.size : Int) ≤ i) : (bytesOf s).drop i.toNat = [] := by
  rw [List.drop_eq_nil_iff, bytesOf_length]; omega
theorem bt_get (s : ByteArray) (i : Int) : bt s i = (bytesOf s).getD i.toNat 0 := by rw [← rd_bytesOf]; rfl
end Go.Proofs.Ytcfommconnlhgaa.Bs
namespace Go.Proofs.Ytcfommconnlhgaa.Own
open RowKit YtcfommconnlhgaaW.PrintWords YtcfommconnlhgaaW.PrintLast YtcfommconnlhgaaW.PrintMore
set_option linter.unusedVariables false
structure Upd (S : Nat → Prop) (w W : World) : Prop where
 os : W.os = w.os
 tape : W.tape = w.tape
 output : W.output = w.output
 size : w.heap.size ≤ W.heap.size
 block : ∀ k, k < w.heap.size → ¬ S k → W.heap[k]? = w.heap[k]?
def New (w : World) (S : Nat → Prop) : Nat → Prop := fun k => S k ∨ w.heap.size ≤ k
def None0 : Nat → Prop := fun _ => False
section
variable {S S' T : Nat → Prop} {w W W2 : World}
theorem Upd.refl (S : Nat → Prop) (w : World) : Upd S w w := ⟨rfl, rfl, rfl, Nat.le_refl _, fun _ _ _ => rfl⟩
theorem Upd.of_below (h : Below w.heap.size w W) : Upd S w W := ⟨h.os, h.tape, h.output, h.size, fun k hk _ => h.block k hk⟩
theorem Upd.below (h : Upd S w W) (hS : ∀ k, k < w.heap.size → ¬ S k) : Below w.heap.size w W := ⟨h.os, h.tape, h.output, h.size, fun k hk => h.block k hk (hS k hk)⟩
theorem Upd.below0 (h : Upd None0 w W) : Below w.heap.size w W := h.below (fun _ _ h => h)
theorem Upd.mono (h : Upd S w W) (hs : ∀ k, S k → S' k) : Upd S' w W := ⟨h.os, h.tape, h.output, h.size, fun k hk hn => h.block k hk (fun e => hn (hs k e))⟩
theorem Upd.trans (h : Upd S w W) (k : Upd T W W2) (hT : ∀ k, T k → S k ∨ w.heap.size ≤ k) : Upd S w W2 :=
 ⟨k.os.trans h.os, k.tape.trans h.tape, k.output.trans h.output, Nat.le_trans h.size k.size, fun i hi hn => (k.block i (Nat.lt_of_lt_of_le hi h.size) (fun e => (hT i e).elim hn (fun e2 => by omega))).trans (h.block i hi hn)⟩
theorem Upd.alloc (h : Upd S w W) (o : Obj) : Upd S w (W.alloc o) := h.trans (Upd.of_below (S := None0) (below_alloc (Below.refl _ _) o)) (fun _ e => e.elim)
theorem Upd.drew (h : Upd S w W) : Upd S w W.drew := ⟨h.os, h.tape, h.output, h.size, h.block⟩
theorem Upd.drewN (h : Upd S w W) (n : Nat) : Upd S w (W.drewN n) := ⟨h.os, h.tape, h.output, h.size, h.block⟩
theorem Upd.setCell (h : Upd S w W) {g j : Nat} (hg : S g ∨ w.heap.size ≤ g) (v : Value) : Upd S w (W.setCell ⟨g, j, none⟩ v) :=
 ⟨h.os, h.tape, h.output, by simpa [World.setCell] using h.size, fun k hk hn => (Below.heap_setCell W ⟨g, j, none⟩ v k (fun e => by
  have e : k = g := e
  subst e
  exact hg.elim hn (fun e2 => by omega))).trans (h.block k hk hn)⟩
theorem Upd.grown {row : Option Nat} (hg : W.grownBy W2 row) (hr : ∀ k, row = some k → S k) : Upd S W W2 := ⟨hg.os, hg.tape, hg.output, hg.size, fun k hk hn => hg.block k hk (fun e => hn (hr k e.symm))⟩
theorem Upd.blk (h : Upd S w W) {g : Nat} {o : Obj} (hb : w.heap[g]? = some o) (hg : ¬ S g) : W.heap[g]? = some o := (h.block g (blk_lt hb) hg).trans hb
theorem Upd.step (h : Upd S w W) (hT : ∀ k, T k → ¬ S k) : ∀ k, T k → k < w.heap.size → W.heap[k]? = w.heap[k]? := fun k hk hlt => h.block k hlt (hT k hk)
theorem New.old {k : Nat} (h : S k) : New w S k := .inl h
theorem New.mono (hs : ∀ k, S k → S' k) : ∀ k, New w S k → New w S' k := fun k h => h.imp (hs k) id
theorem New.later (h : w.heap.size ≤ W.heap.size) : ∀ k, New W (New w S) k → New w S k := fun k hk => hk.elim id (fun e => .inr (Nat.le_trans h e))
end
theorem reps_one {α : Type} {R : α → List Value → Prop} {size : Nat} {p : α} {c : List Value} (h : R p c) (hc : c.length = size) : Reps R size [p] c := by
 have := (Reps.none R size).snoc h hc
 simpa using this
section
variable {α : Type} {d : Kd α} {e : Nat} {w W : World} {S T S' : Nat → Prop} {v : Value} {xs : List α}
theorem row_upd (h : d.R e w 0 T v xs) (hu : Upd S w W) (hd : ∀ k, T k → ¬ S k) : d.R e W 0 T v xs := Kd.R_step h (hu.step hd)
theorem row_mono (h : d.R e w 0 T v xs) (hs : ∀ k, T k → S k) : d.R e w 0 S v xs := Kd.R_mono h hs
theorem row_updT (h : d.R e w 0 T v xs) {g t : Nat} {cells : Array Value} (hb : w.heap[g]? = some (.cells cells t (0, 0))) (ht : ∀ q, q ∈ e :: d.E → q ≠ t) (hu : Upd (fun k => k = g) w W) : d.R e W 0 T v xs :=
 row_mono (row_upd (Kd.R_types h hb ht) hu (fun k hk => hk.2)) (fun k hk => hk.1)
theorem row_updR {β : Type} {d' : Kd β} {e' : Nat} {v' : Value} {ys : List β} {T' : Nat → Prop} (h : d.R e w 0 T v xs) (h' : d'.R e' w 0 T' v' ys) (ht : ∀ q, q ∈ e :: d.E → q ≠ e') (hu : Upd (fun k => some k = v'.ownBlock) w W) : d.R e W 0 T v xs :=
 row_mono (row_upd (Kd.R_apartR h h' ht) hu (fun k hk => hk.2)) (fun k hk => hk.1)
def BlkT (w : World) (g t : Nat) : Prop := ∃ cs, w.heap[g]? = some (.cells cs t (0, 0))
theorem BlkT.set {g t : Nat} (h : BlkT w g t) (i : Nat) (u : Value) : BlkT (w.setCell ⟨g, i, none⟩ u) g t := by
 obtain ⟨cs, h⟩ := h
 exact ⟨_, blk_set h i u⟩
theorem BlkT.drew {g t : Nat} (h : BlkT w g t) : BlkT w.drew g t := h
theorem row_at (h : d.R e w 0 T v xs) {k : Nat} (hk : some k = v.ownBlock) : T k := h.1 k hk.symm
theorem row_raise (hM : ∀ (w : World) (b b' : Nat) (o o' : Nat → Prop) (x : α) (cs : List Value), d.M w b o x cs → d.M w b' o' x cs) {base : Nat} (h : d.R e w 0 S v xs) (hS : ∀ k, S k → base ≤ k) : d.R e w base (fun _ => True) v xs := by
 obtain ⟨h0, inner, ho, hr⟩ := h
 refine ⟨fun _ _ => trivial, inner, ⟨ho.1, ?_⟩, hr.imp_ (fun _ _ hp => hM _ _ _ _ _ _ _ hp)⟩
 rcases ho.2 with h2 | ⟨g, cap, cur, rfl, hg, rest⟩
 ·
  exact .inl h2
 ·
  exact .inr ⟨g, cap, cur, rfl, hS g (h0 g (by simp [Value.ownBlock])), rest⟩
theorem row_alloc (d : Kd α) (W : World) (e : Nat) {xs : List α} {inner : List Value} (hrep : Reps (d.M W 0 (fun _ => False)) d.sz xs inner) (hm : xs.length ≤ 9223372036854775807) :
 d.R e (W.alloc (.cells inner.toArray e)) 0 (New W None0) (.slice (some ⟨W.heap.size, 0, none⟩) xs.length xs.length) xs := by
 refine ⟨fun k hk => ?_, inner, ?_, ?_⟩
 ·
  have : W.heap.size = k := by simpa [Value.ownBlock] using hk
  subst this
  exact .inr (Nat.le_refl _)
 ·
  have h2 := World.ownsRow_lit (base := 0) (e := e) (size := d.sz) W inner.toArray xs.length (Nat.zero_le _) (by simpa [maxLen] using hm) (by simpa using hrep.1)
  simpa using h2
 ·
  refine hrep.imp_ (fun p c hp => d.M_mono (fun k hk => hk.1.elim) (Kd.M_below (d.M_bound hp) (below_alloc (Below.refl _ _) _)))
theorem row_old (h : d.R e w 0 T v xs) : d.R e w 0 (fun k => T k ∧ k < w.heap.size) v xs := Kd.R_mono (Kd.R_bound h) (fun k hk => ⟨hk.1, hk.2.2.1⟩)
end
def Bnd (w : World) (E : List Nat) (S : Nat → Prop) : Nat → Prop := fun k => S k ∧ k < w.heap.size ∧ ∃ q, q ∈ E ∧ ∃ cells, w.heap[k]? = some (.cells cells q (0, 0))
theorem Bnd.ne {w : World} {E : List Nat} {S : Nat → Prop} {g t : Nat} {cs : Array Value} (hb : w.heap[g]? = some (.cells cs t (0, 0))) (ht : ∀ q, q ∈ E → q ≠ t) : ¬ Bnd w E S g := by
 rintro ⟨_, _, q, hq, cells, hc⟩
 rw [hb] at hc
 injection hc with hc
 injection hc with _ hc
 exact ht q hq hc.symm
theorem Bnd.ne_one {w : World} {E : List Nat} {S : Nat → Prop} {g t : Nat} {cs : Array Value} (hb : w.heap[g]? = some (.cells cs t (0, 0))) (ht : ∀ q, q ∈ E → q ≠ t) : ∀ k, Bnd w E S k → ¬ k = g := by
 rintro k hk rfl
 exact Bnd.ne hb ht hk
theorem Bnd.ne_row {α : Type} {d : Kd α} {e : Nat} {T : Nat → Prop} {v : Value} {xs : List α} {w : World} {E : List Nat} {S : Nat → Prop} (hr : d.R e w 0 T v xs) (ht : ∀ q, q ∈ E → q ≠ e) : ∀ k, Bnd w E S k → ¬ some k = v.ownBlock := by
 intro k hk he
 obtain ⟨inner, ho⟩ := Kd.R_own hr
 obtain ⟨cells, hc⟩ := own_typed ho k he.symm
 exact Bnd.ne hc ht hk
theorem bnd_apart {w : World} {E E' : List Nat} {S T : Nat → Prop} (hE : ∀ q, q ∈ E → q ∉ E') {k : Nat} (h1 : Bnd w E S k) (h2 : Bnd w E' T k) : False := by
 obtain ⟨_, _, q, hq, cells, hc⟩ := h1
 obtain ⟨_, _, q', hq', cells', hc'⟩ := h2
 rw [hc] at hc'
 injection hc' with hc'
 injection hc' with _ hc'
 exact hE q hq (hc' ▸ hq')
theorem Bnd.of {w : World} {E : List Nat} {S : Nat → Prop} : ∀ k, Bnd w E S k → S k := fun k h => h.1
theorem Bnd.row {α : Type} {d : Kd α} {e : Nat} {T : Nat → Prop} {v : Value} {xs : List α} {w : World} {E : List Nat} (h : d.R e w 0 T v xs) (hE : ∀ q, q ∈ e :: d.E → q ∈ E) : d.R e w 0 (Bnd w E T) v xs :=
 Kd.R_mono (Kd.R_bound h) (fun k hk => ⟨hk.1, hk.2.2.1, by obtain ⟨q, hq, hc⟩ := hk.2.2.2; exact ⟨q, hE q hq, hc⟩⟩)
theorem Bnd.blk {w : World} {E : List Nat} {S : Nat → Prop} {g t : Nat} {cs : Array Value} (hg : S g) (hb : w.heap[g]? = some (.cells cs t (0, 0))) (ht : t ∈ E) : Bnd w E S g := ⟨hg, blk_lt hb, t, ht, cs, hb⟩
theorem Bnd.mono {w : World} {E E' : List Nat} {S S' : Nat → Prop} (hs : ∀ k, S k → S' k) (hE : ∀ q, q ∈ E → q ∈ E') : ∀ k, Bnd w E S k → Bnd w E' S' k := fun k h => ⟨hs k h.1, h.2.1, by obtain ⟨q, hq, hc⟩ := h.2.2; exact ⟨q, hE q hq, hc⟩⟩
section
variable {P : Program} {ops : Array Oper} {rest : List Oper} {o : Oper} {a : Act} {Q : Exit → Act → World → Prop} {α : Type}
theorem row_append (d : Kd α) {W : World} {S : Nat → Prop} (hgd : o.guard = none) (s x : Operand) (t e : TypeId) (z : Value) (bytes : Nat)
 (ho : o.op = .call { callee := .builtin .append, args := #[s, x], argTypes := #[t, t] })
 (ht : P.underlying t = some (.slice e)) (hinfo : (P.info? e).map (fun i => (i.zero, i.size, i.bytes)) = some (some z, d.sz, bytes)) (hz : z.cells.size = d.sz) (hs0 : 0 < d.sz) (hb0 : 0 < bytes)
 (v : Value) (xs : List α) (p : α) (cs : List Value) (hs : a.eval s = v) (hx : a.eval x = .slice (some ⟨W.heap.size, 0, none⟩) 1 1) (hp : d.M W 0 (fun _ => False) p cs)
 (HO : d.R e W 0 S v xs) (hl : (xs.length + 1) * bytes ≤ 140737488355328) (ys : List α) (hy : xs ++ [p] = ys)
 (h : ∀ v1 w1, d.R e w1 0 (New W S) v1 ys → Upd (fun k => some k = v.ownBlock) W w1 → wpList P ops Q rest (a.put o.dst v1) w1) :
 wpList P ops Q (o :: rest) a (W.alloc (.cells cs.toArray e)) := by
 refine Kd.R_append d (w0 := W) 0 hgd s x t e z bytes ho ht hinfo hz hs0 hb0 v xs p cs (New W S) (fun _ => False) hs hx hp (fun _ h => h.elim) (fun k hk => .inr hk) (row_mono HO (fun _ h => .inl h)) ⟨rfl, rfl, rfl, Nat.le_refl _, fun _ _ => rfl⟩ (Nat.zero_le _) hl ?_
 intro v1 w1 h1 _ hg hat
 subst hy
 exact h v1 w1 h1 (Upd.grown hg (fun k hk => hk.symm))
end
section
variable {P : Program} {ops : Array Oper} {o : Oper} {a : Act} {Q : Exit → Act → World → Prop} {Kc : Act → World → Prop} {α : Type}
end
section
variable {P : Program} {ops : Array Oper} {rest : List Oper} {o : Oper} {a : Act} {Q : Exit → Act → World → Prop} {α : Type}
theorem row_lit (d : Kd α) {W : World} (e : Nat) (hgd : o.guard = none) {N : Tmp} (hd : o.dst = some N) {xs : List α} {inner : List Value}
 (hrun : (execOp a.eval o).run P W = .ok (.value (.slice (some ⟨W.heap.size, 0, none⟩) xs.length xs.length)) (W.alloc (.cells inner.toArray e)))
 (hrep : Reps (d.M W 0 (fun _ => False)) d.sz xs inner) (hm : xs.length ≤ 9223372036854775807)
 (h : ∀ v1 w1, d.R e w1 0 (New W None0) v1 xs → Upd None0 W w1 → wpList P ops Q rest (a.put o.dst v1) w1) : wpList P ops Q (o :: rest) a W := by
 refine Kd.R_lit d (w0 := W) 0 e hgd hd (ok := New W None0) hrun hrep (fun _ h => h.elim) (.inr (Nat.le_refl _)) ⟨rfl, rfl, rfl, Nat.le_refl _, fun _ _ => rfl⟩ (Nat.zero_le _) hm ?_
 intro v1 w1 h1 _ hg _
 exact h v1 w1 h1 (Upd.grown hg (fun k hk => by cases hk))
theorem row_append_rows (d : Kd α) {W : World} {S : Nat → Prop} (hgd : o.guard = none) (s x : Operand) (t e : TypeId) (z : Value) (bytes : Nat)
 (ho : o.op = .call { callee := .builtin .append, args := #[s, x], argTypes := #[t, t] })
 (ht : P.underlying t = some (.slice e)) (hinfo : (P.info? e).map (fun i => (i.zero, i.size, i.bytes)) = some (some z, d.sz, bytes)) (hz : z.cells.size = d.sz) (hs0 : 0 < d.sz) (hb0 : 0 < bytes)
 (v : Value) (xs ys : List α) (A : Option Addr) (m c : Nat) (hs : a.eval s = v) (hx : a.eval x = .slice A m c)
 (HO : d.R e W 0 S v xs) (HR : d.C W A m ys) (hKM : ∀ x cs, d.K W x cs → d.M W 0 (fun _ => False) x cs) (hl : (xs.length + m) * bytes ≤ 140737488355328)
 (zs : List α) (hy : xs ++ ys = zs) (h : ∀ v1 w1, d.R e w1 0 (New W S) v1 zs → Upd (fun k => some k = v.ownBlock) W w1 → wpList P ops Q rest (a.put o.dst v1) w1) :
 wpList P ops Q (o :: rest) a W := by
 refine Kd.R_append_rows d (Rr := d.K W) (w0 := W) 0 hgd s x t e z bytes ho ht hinfo hz hs0 hb0 v xs ys A m c (New W S) (fun _ => False) hs hx (row_mono HO (fun _ h => .inl h)) HR hKM (fun _ h => h.elim) (fun k hk => .inr hk) ⟨rfl, rfl, rfl, Nat.le_refl _, fun _ _ => rfl⟩ (Nat.zero_le _) hl ?_
 intro v1 w1 h1 _ hg hat
 subst hy
 exact h v1 w1 h1 (Upd.grown hg (fun k hk => hk.symm))
end
section
variable {P : Program} {ops : Array Oper} {rest : List Oper} {o : Oper} {a : Act} {Q : Exit → Act → World → Prop}
theorem upd_setRow (W : World) (g : Nat) (cs : Array Value) : Upd (fun k => k = g) W (W.setRow g cs) := ⟨rfl, rfl, rfl, by simp [World.setRow], fun k _ hk => setRow_other W g k cs hk⟩
theorem rowput {W : World} (hgd : o.guard = none) (ty : TypeId) (x y : Operand) (ho : o.op = .store ty x y) (hd : o.dst = none) (g : Nat) (cells : Array Value) (hx : a.eval x = .pointer (some ⟨g, 0, none⟩)) (hy : a.eval y = .agg cells)
 (t : TypeId) (old : Array Value) (hg : W.heap[g]? = some (.cells old t (0, 0))) (hi : (P.info? ty).map (·.size) = some cells.size) (hold : old.size = cells.size) (h1 : cells.all (·.oneCell') = true)
 (h : ∀ w', w'.heap[g]? = some (.cells cells t (0, 0)) → Upd (fun k => k = g) W w' → wpList P ops Q rest a w') : wpList P ops Q (o :: rest) a W :=
 wpList_store_row hgd ty x y ho g cells hx hy t old hg hi hold h1 (by
  have e : a.put o.dst undef = a := by rw [hd]; rfl
  rw [e]
  exact h _ (setRow_heap W g old cells t (0, 0) hg) (upd_setRow W g cells))
theorem cellput {W : World} (hgd : o.guard = none) (ty : TypeId) (x y : Operand) (ho : o.op = .store ty x y) (hd : o.dst = none) (g i : Nat) (v : Value) (hx : a.eval x = .pointer (some ⟨g, i, none⟩)) (hy : a.eval y = v)
 (t : TypeId) (old new : Array Value) (hg : W.heap[g]? = some (.cells old t (0, 0))) (hi : (P.info? ty).map (·.size) = some 1) (hlt : i < old.size) (h1 : v.oneCell' = true) (hn : old.setIfInBounds i v = new)
 (h : ∀ w', w'.heap[g]? = some (.cells new t (0, 0)) → Upd (fun k => k = g) W w' → wpList P ops Q rest a w') : wpList P ops Q (o :: rest) a W := by
 refine wpList_plain hgd fun K hK => ?_
 have hcell : W.cell? ⟨g, i, none⟩ = some old[i] := by rw [cell_of_row W g i old t (0, 0) hg, Array.getElem?_eq_getElem hlt]
 have hfro : W.frozen? ⟨g, i, none⟩ = false := frozen_of_row W g i old t hg
 have hadd : (⟨g, i, none⟩ : Addr).add 0 = ⟨g, i, none⟩ := rfl
 have hst : (store ((⟨g, i, none⟩ : Addr).add 0) v).run P W = .ok () (W.setCell ⟨g, i, none⟩ v) := by
  rw [hadd, run_store P W _ v _ h1, hcell]
  simp [hfro]
 have hc : v.cells = #[v] := by cases v <;> first | rfl | cases h1
 have hsv : (storeVar ty ⟨g, i, none⟩ v).run P W = .ok () (W.setCell ⟨g, i, none⟩ v) := by
  cases hq : P.info? ty with
  | none => simp [hq] at hi
  | some j =>
    have hs : j.size = 1 := by simpa [hq] using hi
    simp [storeVar, sizeOf, typeInfo, hq, hc, hs, storeCells, hst]
 unfold Oper.wp execOp
 simp only [ho, hx, hy, Instr.storeAt, Instr.sureAddr, Sem.run_bind, Sem.run_pure, Result.andThen_ok, hsv]
 refine hK _ _ ?_
 have e : a.put o.dst undef = a := by rw [hd]; rfl
 rw [e]
 refine h _ (blk_put hg i v hn) ?_
 rw [setCell_eq_setRow W g i old t (0, 0) v hg]
 exact upd_setRow W g _
theorem boxnew {W : World} (hgd : o.guard = none) {N : Tmp} (hd : o.dst = some N) {cs : Array Value} {t : TypeId}
 (hrun : (execOp a.eval o).run P W = .ok (.value (.pointer (some ⟨W.heap.size, 0, none⟩))) (W.alloc (.cells cs t (0, 0))))
 (h : ∀ g, W.heap.size ≤ g → ∀ w1, w1.heap[g]? = some (.cells cs t (0, 0)) → Upd None0 W w1 → wpList P ops Q rest (a.put o.dst (.pointer (some ⟨g, 0, none⟩))) w1) : wpList P ops Q (o :: rest) a W :=
 box_event hgd hd hrun (fun g hg w1 hb hl => h g zz4 w1 hb (Upd.of_below hl))
theorem blk_fresh {W : World} {g g' : Nat} {o : Obj} (hb : W.heap[g]? = some o) (h : W.heap.size ≤ g') : g ≠ g' := fun e => by have := blk_lt hb; omega
end
abbrev Lt (a b : World) : Prop := Nonempty (PLift (Upd None0 a b))
theorem Lt.u {a b : World} (h : Lt a b) : Upd None0 a b := h.elim (fun q => q.down)
instance lt_refl (a : World) : Lt a a := ⟨⟨Upd.refl _ a⟩⟩
instance lt_drew (a b : World) [h : Lt a b] : Lt a b.drew := ⟨⟨(Lt.u h).drew⟩⟩
instance lt_drewN (a b : World) (n : Nat) [h : Lt a b] : Lt a (b.drewN n) := ⟨⟨(Lt.u h).drewN n⟩⟩
instance lt_alloc (a b : World) (o : Obj) [h : Lt a b] : Lt a (b.alloc o) := ⟨⟨(Lt.u h).alloc o⟩⟩
theorem lu {a b : World} [h : Lt a b] : Upd None0 a b := Lt.u h
theorem bl {a b : World} [h : Lt a b] {g : Nat} {o : Obj} (hb : Aside0 (a.heap[g]? = some o)) : b.heap[g]? = some o := (Lt.u h).blk hb.out (fun h => h)
theorem rl {a b : World} [h : Lt a b] {α : Type} {d : Kd α} {e : Nat} {S : Nat → Prop} {v : Value} {xs : List α} (hr : Aside0 (d.R e a 0 S v xs)) : d.R e b 0 S v xs := row_upd hr.out (Lt.u h) (fun k hk h => h.elim)
theorem ul {a b w : World} [h : Lt a b] {S : Nat → Prop} (hu : Aside0 (Upd S w a)) : Upd S w b := hu.out.trans (Lt.u h) (fun _ h => h.elim)
theorem co {w : World} {g : Nat} {cs : Array Value} {t : Nat} (h : Aside0 (w.heap[g]? = some (.cells cs t (0, 0)))) (i : Nat) (v : Value) (hv : cs[i]? = some v) : w.cell? ⟨g, i, none⟩ = some v := (blk_cell h.out i).trans hv
end Go.Proofs.Ytcfommconnlhgaa.Own
namespace Go.Proofs.Ytcfommconnlhgaa.Sl
open RowKit YtcfommconnlhgaaW.PrintWords YtcfommconnlhgaaW.PrintLast YtcfommconnlhgaaW.PrintMore Own
set_option linter.unusedVariables false
structure Ast where
 P : World → (Nat → Prop) → Prop
 up : ∀ {w W : World} {S T : Nat → Prop}, P w S → Upd T w W → (∀ k, S k → ¬ T k) → P W S
 mo : ∀ {w : World} {S S' : Nat → Prop}, P w S → (∀ k, S k → S' k) → P w S'
 old : ∀ {w : World} {S : Nat → Prop}, P w S → P w (fun k => S k ∧ k < w.heap.size)
def Hs (w : World) (S : Nat → Prop) (l : List Ast) : Prop :=
 ∃ own : Nat → Nat, (∀ k, own k ≠ 0 → S k) ∧ ∀ (i : Nat) (a : Ast), l[i]? = some a → a.P w (fun k => own k = i + 1)
theorem Hs.up {w W : World} {S T : Nat → Prop} {l : List Ast} (h : Hs w S l) (hu : Upd T w W) (hd : ∀ k, S k → ¬ T k) : Hs W S l := by
 obtain ⟨own, h1, h2⟩ := h
 exact ⟨own, h1, fun i a ha => a.up (h2 i a ha) hu (fun k hk => hd k (h1 k zz4))⟩
theorem Hs.mo {w : World} {S S' : Nat → Prop} {l : List Ast} (h : Hs w S l) (hs : ∀ k, S k → S' k) : Hs w S' l := by
 obtain ⟨own, h1, h2⟩ := h
 exact ⟨own, fun k hk => hs k (h1 k hk), h2⟩
open Classical in
theorem Hs.old {w : World} {S : Nat → Prop} {l : List Ast} (h : Hs w S l) : Hs w (fun k => S k ∧ k < w.heap.size) l := by
 obtain ⟨own, h1, h2⟩ := h
 refine ⟨fun k => if k < w.heap.size then own k else 0, fun k hk => ?_, fun i a ha => a.mo (a.old (h2 i a ha)) (fun k hk => ?_)⟩
 ·
  dsimp only at hk
  by_cases hlt : k < w.heap.size
  ·
   rw [if_pos hlt] at hk; exact ⟨h1 k hk, hlt⟩
  ·
   rw [if_neg hlt] at hk; exact absurd rfl hk
 ·
  exact (if_pos hk.2).trans hk.1
def blk (g : Nat) (cs : Array Value) (t : Nat) : Ast where
 P w S := S g ∧ w.heap[g]? = some (.cells cs t (0, 0))
 up h hu hd := ⟨h.1, hu.blk h.2 (hd g h.1)⟩
 mo h hs := ⟨hs g h.1, h.2⟩
 old h := ⟨⟨h.1, blk_lt h.2⟩, h.2⟩
def row {α : Type} (d : Kd α) (e : Nat) (v : Value) (xs : List α) : Ast where
 P w S := d.R e w 0 S v xs
 up h hu hd := row_upd h hu hd
 mo h hs := row_mono h hs
 old h := row_old h
def ex {α : Type} (f : α → Ast) : Ast where
 P w S := ∃ a, (f a).P w S
 up h hu hd := h.elim fun a h => ⟨a, (f a).up h hu hd⟩
 mo h hs := h.elim fun a h => ⟨a, (f a).mo h hs⟩
 old h := h.elim fun a h => ⟨a, (f a).old h⟩
def sep (l : List Ast) : Ast where
 P w S := Hs w S l
 up h hu hd := h.up hu hd
 mo h hs := h.mo hs
 old h := h.old
def pu (p : Prop) : Ast where
 P _ _ := p
 up h _ _ := h
 mo h _ := h
 old h := h
structure Sp (w0 : World) (S0 : Nat → Prop) (l : List Ast) (w : World) : Prop where
 u : Upd S0 w0 w
 h : Hs w (New w0 S0) l
section
variable {w0 w W w2 : World} {S0 S : Nat → Prop} {l l1 l2 l3 : List Ast} {a : Ast}
theorem Sp.start (h : Hs w S l) : Sp w S l w := ⟨Upd.refl _ _, h.mo (fun _ h => .inl h)⟩
theorem Sp.nil : Sp w S [] w := Sp.start ⟨fun _ => 0, fun k h => absurd rfl h, fun i a h => by simp at h⟩
theorem Sp.to (h : Sp w0 S0 l w) (hu : Upd None0 w W) : Sp w0 S0 l W := ⟨h.u.trans hu (fun _ h => h.elim), h.h.up hu (fun _ _ h => h)⟩
theorem Sp.lt [hl : Lt w W] (h : Sp w0 S0 l w) : Sp w0 S0 l W := h.to (Lt.u hl)
theorem Hs.sel (h : Hs w S l) (ix : List Nat) (hn : ix.Nodup) (he : ix.map (l[·]?) = l2.map some) : Hs w S l2 := by
 obtain ⟨own, h1, h2⟩ := h
 refine ⟨fun k => if own k = 0 then 0 else (ix.idxOf (own k - 1) + 1) % (ix.length + 1), fun k hk => h1 k (fun h0 => hk (if_pos h0)), fun i a ha => ?_⟩
 have hlen : ix.length = l2.length := by have := congrArg List.length he; simpa using this
 have hi : i < l2.length := (List.getElem?_eq_some_iff.1 ha).1
 have hix : i < ix.length := by omega
 have he2 : l[ix[i]]? = some a := by
  have := congrArg (fun q => q[i]?) he
  simp [hix, ha] at this
  exact this
 refine a.mo (h2 _ a he2) (fun k hk => ?_)
 have h3 : ix.idxOf (ix[i]) = i := hn.idxOf_getElem i hix
 show (if own k = 0 then 0 else (ix.idxOf (own k - 1) + 1) % (ix.length + 1)) = i + 1
 rw [if_neg zz4, hk, Nat.add_sub_cancel, h3, Nat.mod_eq_of_lt zz4]
theorem Sp.sel (h : Sp w0 S0 l w) (ix : List Nat) (he : ix.map (l[·]?) = l2.map some := by rfl) (hn : ix.Nodup := by decide) : Sp w0 S0 l2 w := ⟨h.u, h.h.sel ix hn he⟩
theorem Hs.set (h : Hs w S l) (i : Nat) (a b : Ast) (hi : l[i]? = some a) (hf : ∀ T, a.P w T → b.P w T) : Hs w S (l.set i b) := by
 obtain ⟨own, h1, h2⟩ := h
 refine ⟨own, h1, fun j c hc => ?_⟩
 rw [List.getElem?_set] at hc
 split at hc
 ·
  rename_i hij
  subst hij
  split at hc
  ·
   cases hc; exact hf _ (h2 _ a hi)
  ·
   cases hc
 ·
  exact h2 j c hc
theorem Hs.get (h : Hs w S l) (i : Nat) (a : Ast) (hi : l[i]? = some a) : a.P w S := by
 obtain ⟨own, h1, h2⟩ := h
 exact a.mo (h2 i a hi) (fun k hk => h1 k zz4)
theorem Hs.ex0 {α : Type} {f : α → Ast} (h : Hs w S (ex f :: l)) : ∃ x, Hs w S (f x :: l) := by
 obtain ⟨own, h1, h2⟩ := h
 obtain ⟨x, hx⟩ := h2 0 _ rfl
 refine ⟨x, own, h1, fun j c hc => ?_⟩
 cases j with
 | zero => cases hc; exact hx
 | succ j => exact h2 (j + 1) c hc
theorem Hs.exI {α : Type} {f : α → Ast} (x : α) (h : Hs w S (f x :: l)) : Hs w S (ex f :: l) := h.set 0 (f x) (ex f) rfl (fun T hT => ⟨x, hT⟩)
open Classical in
theorem Hs.flat (h : Hs w S (sep l1 :: l)) : Hs w S (l1 ++ l) := by
 obtain ⟨own, h1, h2⟩ := h
 obtain ⟨o2, h3, h4⟩ := h2 0 _ rfl
 refine ⟨fun k => if own k = 0 then 0 else if own k = 1 then (if o2 k ≤ l1.length then o2 k else 0) else own k - 1 + l1.length, fun k hk => h1 k (fun h0 => hk (if_pos h0)), fun i a ha => ?_⟩
 by_cases hi : i < l1.length
 ·
  rw [List.getElem?_append_left hi] at ha
  refine a.mo (h4 i a ha) (fun k hk => ?_)
  have h5 : own k = 1 := h3 k zz4
  show (if own k = 0 then 0 else _) = _
  rw [if_neg zz4, if_pos h5, hk, if_pos zz4]
 ·
  rw [List.getElem?_append_right zz4] at ha
  refine a.mo (h2 (i - l1.length + 1) a (by simpa using ha)) (fun k hk => ?_)
  show (if own k = 0 then 0 else _) = _
  rw [if_neg zz4, if_neg zz4, hk]; omega
theorem Hs.fold (l1 : List Ast) (h : Hs w S (l1 ++ l)) : Hs w S (sep l1 :: l) := by
 obtain ⟨own, h1, h2⟩ := h
 refine ⟨fun k => if own k = 0 then 0 else if own k ≤ l1.length then 1 else own k - l1.length + 1, fun k hk => h1 k (fun h0 => hk (if_pos h0)), fun i a ha => ?_⟩
 cases i with
 | zero =>
   cases ha
   refine ⟨fun k => if own k ≤ l1.length then own k else 0, fun k hk => ?_, fun j b hb => ?_⟩
   ·
    show (if own k = 0 then 0 else _) = _
    dsimp only at hk
    by_cases h5 : own k ≤ l1.length
    ·
     rw [if_pos h5] at hk; rw [if_neg hk, if_pos h5]
    ·
     rw [if_neg h5] at hk; exact absurd rfl hk
   ·
    have hj := (List.getElem?_eq_some_iff.1 hb).1
    refine b.mo (h2 j b (by rw [List.getElem?_append_left hj]; exact hb)) (fun k hk => ?_)
    show (if own k ≤ l1.length then own k else 0) = _
    rw [if_pos zz4, hk]
 | succ i =>
   refine a.mo (h2 (i + l1.length) a (by rw [List.getElem?_append_right zz4]; simpa using ha)) (fun k hk => ?_)
   show (if own k = 0 then 0 else _) = _
   rw [if_neg zz4, if_neg zz4, hk]; omega
theorem Sp.ex0 {α : Type} {f : α → Ast} (h : Sp w0 S0 (ex f :: l) w) : ∃ x, Sp w0 S0 (f x :: l) w := h.h.ex0.elim fun x hx => ⟨x, h.u, hx⟩
theorem Sp.exI {α : Type} {f : α → Ast} (x : α) (h : Sp w0 S0 (f x :: l) w) : Sp w0 S0 (ex f :: l) w := ⟨h.u, h.h.exI x⟩
theorem Sp.flat (h : Sp w0 S0 (sep l1 :: l) w) : Sp w0 S0 (l1 ++ l) w := ⟨h.u, h.h.flat⟩
theorem Sp.fold (l1 : List Ast) (h : Sp w0 S0 (l1 ++ l) w) : Sp w0 S0 (sep l1 :: l) w := ⟨h.u, h.h.fold l1⟩
theorem Sp.turn (h : Sp w0 S0 l w) (i : Nat) (a b : Ast) (hi : l[i]? = some a) (hf : ∀ T, a.P w T → b.P w T) : Sp w0 S0 (l.set i b) w := ⟨h.u, h.h.set i a b hi hf⟩
theorem Sp.swap {b : Ast} (h : Sp w0 S0 (a :: b :: l) w) : Sp w0 S0 (b :: a :: l) w := by
 obtain ⟨u, own, h1, h2⟩ := h
 refine ⟨u, fun k => if own k = 1 then 2 else if own k = 2 then 1 else own k, fun k hk => h1 k (fun e => ?_), fun i c hc => ?_⟩
 ·
  dsimp only at hk
  rw [if_neg zz4, if_neg zz4] at hk; exact hk e
 ·
  match i with
  | 0 => exact c.mo (h2 1 c hc) (fun k hk => by show (if own k = 1 then 2 else if own k = 2 then 1 else own k) = 1; rw [if_neg zz4, if_pos hk])
  | 1 => exact c.mo (h2 0 c hc) (fun k hk => by show (if own k = 1 then 2 else if own k = 2 then 1 else own k) = 2; rw [if_pos hk])
  | i + 2 => exact c.mo (h2 (i + 2) c hc) (fun k hk => by show (if own k = 1 then 2 else if own k = 2 then 1 else own k) = i + 2 + 1; rw [if_neg zz4, if_neg zz4, hk])
noncomputable def Sp.ft (h : Sp w0 S0 l w) (n : Nat) : Nat → Prop := fun k => h.h.choose k ≠ 0 ∧ h.h.choose k ≤ n
theorem Sp.pre [hl : Lt w W] (h : Sp w0 S0 l w) (n : Nat) (he : l.take n = l1 := by rfl) : Hs W (h.ft n) l1 := by
 subst he
 refine (show Hs w (h.ft n) (l.take n) from ?_).up (Lt.u hl) (fun _ _ h => h)
 refine ⟨fun k => if h.h.choose k ≤ n then h.h.choose k else 0, fun k hk => ?_, fun i a ha => ?_⟩
 ·
  dsimp only at hk
  by_cases h5 : h.h.choose k ≤ n
  ·
   rw [if_pos h5] at hk; exact ⟨hk, h5⟩
  ·
   rw [if_neg h5] at hk; exact absurd rfl hk
 ·
  obtain ⟨hi, hv⟩ := List.getElem?_eq_some_iff.1 ha
  rw [List.length_take] at hi
  refine a.mo (h.h.choose_spec.2 i a (by rw [List.getElem?_take, if_pos zz4] at ha; exact ha)) (fun k hk => ?_)
  show (if h.h.choose k ≤ n then h.h.choose k else 0) = _
  rw [hk, if_pos zz4]
open Classical in
theorem Sp.post [hl : Lt w W] (h : Sp w0 S0 l w) (n : Nat) (hq : Sp W (h.ft n) l2 w2) (he : l.drop n = l3 := by rfl) : Sp w0 S0 (l2 ++ l3) w2 := by
 subst he
 have hs := h.h.choose_spec
 have hwW : w.heap.size ≤ W.heap.size := (Lt.u hl).size
 refine ⟨h.u.trans (((Lt.u hl).mono (S' := h.ft n) (fun _ h => h.elim)).trans hq.u (fun k hk => .inl hk)) (fun k hk => hs.1 k hk.1), ?_⟩
 obtain ⟨o2, h1, h2⟩ := hq.h
 refine ⟨fun k => if o2 k ≠ 0 then (if o2 k ≤ l2.length then o2 k else 0) else if n < h.h.choose k ∧ k < w.heap.size then h.h.choose k - n + l2.length else 0, fun k hk => ?_, fun i a ha => ?_⟩
 ·
  dsimp only at hk
  by_cases h5 : o2 k ≠ 0
  ·
   exact (h1 k h5).elim (fun h6 => hs.1 k h6.1) (fun h6 => .inr (Nat.le_trans h.u.size (Nat.le_trans hwW h6)))
  ·
   rw [if_neg h5] at hk
   split at hk
   ·
    rename_i h6; exact hs.1 k zz4
   ·
    exact absurd rfl hk
 ·
  by_cases hi : i < l2.length
  ·
   rw [List.getElem?_append_left hi] at ha
   refine a.mo (h2 i a ha) (fun k hk => ?_)
   show (if o2 k ≠ 0 then _ else _) = _
   rw [if_pos zz4, if_pos zz4, hk]
  ·
   rw [List.getElem?_append_right zz4] at ha
   have h3 := a.old (hs.2 (i - l2.length + n) a (by rw [List.getElem?_drop] at ha; rw [Nat.add_comm]; exact ha))
   have h4 := a.up (a.up h3 (Lt.u hl) (fun _ _ h => h)) hq.u (fun k hk hf => by have := hf.2; have := hk.1; omega)
   refine a.mo h4 (fun k hk => ?_)
   have hk1 := hk.1
   have hk2 := hk.2
   have h5 : ¬ o2 k ≠ 0 := fun h5 => by
    rcases h1 k h5 with h6 | h6
    ·
     have := h6.2; omega
    ·
     omega
   show (if o2 k ≠ 0 then _ else _) = _
   rw [if_neg h5, if_pos zz4, hk1]
   omega
theorem Sp.pre1 [hl : Lt w W] (h : Sp w0 S0 (a :: l) w) : Hs W (h.ft 1) [a] := h.pre 1
theorem Sp.post1 [hl : Lt w W] {b : Ast} (h : Sp w0 S0 (a :: l) w) (hq : Sp W (h.ft 1) [b] w2) : Sp w0 S0 (b :: l) w2 := h.post 1 hq
theorem Sp.post0 [hl : Lt w W] {b : Ast} (h : Sp w0 S0 l w) (hq : Sp W (h.ft 0) [b] w2) : Sp w0 S0 (b :: l) w2 := h.post 0 hq
theorem Sp.mo {S' : Nat → Prop} (h : Sp w0 S0 l w) (hs : ∀ k, S0 k → S' k) : Sp w0 S' l w := ⟨h.u.mono hs, h.h.mo (New.mono hs)⟩
theorem Sp.toN [hl : Lt w W] (h : Sp w0 S0 l w) (hu : Upd None0 W w2) : Sp w0 S0 l w2 := (h.lt (W := W)).to hu
theorem Sp.blk {g t : Nat} {cs : Array Value} (h : Sp w0 S0 l w) (i : Nat) (hi : l[i]? = some (blk g cs t) := by rfl) : w.heap[g]? = some (.cells cs t (0, 0)) := (h.h.get i _ hi).2
theorem Sp.blkW [hl : Lt w W] {g t : Nat} {cs : Array Value} (h : Sp w0 S0 l w) (i : Nat) (hi : l[i]? = some (Sl.blk g cs t) := by rfl) : W.heap[g]? = some (.cells cs t (0, 0)) := (Lt.u hl).blk (h.blk i hi) (fun h => h)
theorem Sp.row {α : Type} {d : Kd α} {e : Nat} {v : Value} {xs : List α} (h : Sp w0 S0 l w) (i : Nat) (hi : l[i]? = some (row d e v xs) := by rfl) : d.R e w 0 (New w0 S0) v xs := h.h.get i _ hi
theorem Sp.cell {g t : Nat} {cs : Array Value} (h : Sp w0 S0 l w) (i j : Nat) (v : Value) (hi : l[i]? = some (Sl.blk g cs t) := by rfl) (hv : cs[j]? = some v := by rfl) : w.cell? ⟨g, j, none⟩ = some v := (blk_cell (h.blk i hi) j).trans hv
theorem Sp.fz {g t : Nat} {cs : Array Value} (h : Sp w0 S0 l w) (i : Nat) (hi : l[i]? = some (Sl.blk g cs t) := by rfl) : ∀ j, w.frozen? ⟨g, j, none⟩ = false := fun j => blk_frozen (h.blk i hi) j
theorem Sp.cells2 {g t : Nat} {a0 a1 : Value} (h : Sp w0 S0 l w) (i : Nat) (hi : l[i]? = some (Sl.blk g #[a0, a1] t) := by rfl) : w.cell? ⟨g, 0, none⟩ = some a0 ∧ w.cell? ⟨g, 1, none⟩ = some a1 := ⟨h.cell i 0 _ hi, h.cell i 1 _ hi⟩
theorem Sp.cells3 {g t : Nat} {a0 a1 a2 : Value} (h : Sp w0 S0 l w) (i : Nat) (hi : l[i]? = some (Sl.blk g #[a0, a1, a2] t) := by rfl) : w.cell? ⟨g, 0, none⟩ = some a0 ∧ w.cell? ⟨g, 1, none⟩ = some a1 ∧ w.cell? ⟨g, 2, none⟩ = some a2 := ⟨h.cell i 0 _ hi, h.cell i 1 _ hi, h.cell i 2 _ hi⟩
theorem Sp.cells4 {g t : Nat} {a0 a1 a2 a3 : Value} (h : Sp w0 S0 l w) (i : Nat) (hi : l[i]? = some (Sl.blk g #[a0, a1, a2, a3] t) := by rfl) : w.cell? ⟨g, 0, none⟩ = some a0 ∧ w.cell? ⟨g, 1, none⟩ = some a1 ∧ w.cell? ⟨g, 2, none⟩ = some a2 ∧ w.cell? ⟨g, 3, none⟩ = some a3 := ⟨h.cell i 0 _ hi, h.cell i 1 _ hi, h.cell i 2 _ hi, h.cell i 3 _ hi⟩
theorem Sp.cells5 {g t : Nat} {a0 a1 a2 a3 a4 : Value} (h : Sp w0 S0 l w) (i : Nat) (hi : l[i]? = some (Sl.blk g #[a0, a1, a2, a3, a4] t) := by rfl) : w.cell? ⟨g, 0, none⟩ = some a0 ∧ w.cell? ⟨g, 1, none⟩ = some a1 ∧ w.cell? ⟨g, 2, none⟩ = some a2 ∧ w.cell? ⟨g, 3, none⟩ = some a3 ∧ w.cell? ⟨g, 4, none⟩ = some a4 := ⟨h.cell i 0 _ hi, h.cell i 1 _ hi, h.cell i 2 _ hi, h.cell i 3 _ hi, h.cell i 4 _ hi⟩
theorem Sp.cells7 {g t : Nat} {a0 a1 a2 a3 a4 a5 a6 : Value} (h : Sp w0 S0 l w) (i : Nat) (hi : l[i]? = some (Sl.blk g #[a0, a1, a2, a3, a4, a5, a6] t) := by rfl) : w.cell? ⟨g, 0, none⟩ = some a0 ∧ w.cell? ⟨g, 1, none⟩ = some a1 ∧ w.cell? ⟨g, 2, none⟩ = some a2 ∧ w.cell? ⟨g, 3, none⟩ = some a3 ∧ w.cell? ⟨g, 4, none⟩ = some a4 ∧ w.cell? ⟨g, 5, none⟩ = some a5 ∧ w.cell? ⟨g, 6, none⟩ = some a6 := ⟨h.cell i 0 _ hi, h.cell i 1 _ hi, h.cell i 2 _ hi, h.cell i 3 _ hi, h.cell i 4 _ hi, h.cell i 5 _ hi, h.cell i 6 _ hi⟩
theorem Sp.put_ {g t : Nat} {cs cs' : Array Value} (h : Sp w0 S0 l w) (i : Nat) (hi : l[i]? = some (Sl.blk g cs t)) (hu : Upd (fun k => k = g) w W) (hb : W.heap[g]? = some (.cells cs' t (0, 0))) : Sp w0 S0 (l.set i (Sl.blk g cs' t)) W := by
 obtain ⟨u, own, h1, h2⟩ := h
 have hg := (h2 i _ hi).1
 refine ⟨u.trans hu (fun k hk => ?_), own, h1, fun j a ha => ?_⟩
 ·
  rw [hk]; exact h1 g (by show own g ≠ 0; have : own g = i + 1 := hg; omega)
 ·
  rw [List.getElem?_set] at ha
  split at ha
  ·
   rename_i hij
   subst hij
   split at ha
   ·
    cases ha; exact ⟨hg, hb⟩
   ·
    cases ha
  ·
   rename_i hij
   refine a.up (h2 j a ha) hu (fun k hk e => hij ?_)
   have e : k = g := e
   subst e
   have h6 : own k = i + 1 := hg
   have h7 : own k = j + 1 := hk
   omega
theorem Sp.set_ {g t : Nat} {cs cs' : Array Value} (h : Sp w0 S0 l w) (i j : Nat) (v : Value) (hi : l[i]? = some (Sl.blk g cs t) := by rfl) (hn : cs.setIfInBounds j v = cs' := by rfl) : Sp w0 S0 (l.set i (Sl.blk g cs' t)) (w.setCell ⟨g, j, none⟩ v) := by
 have hb := h.blk i hi
 refine h.put_ i hi ?_ (blk_put hb j v hn)
 rw [setCell_eq_setRow w g j cs t (0, 0) v hb]
 exact upd_setRow w g _
open Classical in
theorem Sp.more (h : Sp w0 S0 l w) (hu : Upd None0 w W) (ha : a.P W (fun k => w.heap.size ≤ k)) : Sp w0 S0 (a :: l) W := by
 obtain ⟨u, own, h1, h2⟩ := h
 refine ⟨u.trans hu (fun _ h => h.elim), fun k => if w.heap.size ≤ k then 1 else if own k = 0 then 0 else own k + 1, fun k hk => ?_, fun j b hb => ?_⟩
 ·
  dsimp only at hk
  by_cases h5 : w.heap.size ≤ k
  ·
   exact .inr (Nat.le_trans u.size h5)
  ·
   rw [if_neg h5] at hk
   exact h1 k (fun e => by rw [if_pos e] at hk; exact hk rfl)
 ·
  cases j with
  | zero => cases hb; exact a.mo ha (fun k hk => if_pos hk)
  | succ j =>
    refine b.mo (b.up (b.old (h2 j b hb)) hu (fun _ _ h => h)) (fun k hk => ?_)
    have hk1 : own k = j + 1 := hk.1
    have hk2 := hk.2
    show (if w.heap.size ≤ k then 1 else if own k = 0 then 0 else own k + 1) = _
    rw [if_neg zz4, if_neg zz4, hk1]
theorem Sp.lit {α : Type} (d : Kd α) (e : Nat) (h : Sp w0 S0 l w) (xs : List α) (inner : List Value) (n : Nat) (hn : w.heap.size = n) (hrep : Reps (d.M w 0 (fun _ => False)) d.sz xs inner) (hm : xs.length ≤ 9223372036854775807) :
 Sp w0 S0 (Sl.row d e (.slice (some ⟨n, 0, none⟩) xs.length xs.length) xs :: l) (w.alloc (.cells inner.toArray e)) := by
 subst hn
 exact h.more (Upd.alloc (Upd.refl _ _) _) (row_mono (row_alloc d w e hrep hm) (fun k h => h.elim (fun h => h.elim) id))
theorem Sp.nilrow {α : Type} (d : Kd α) (e : Nat) (h : Sp w0 S0 l w) : Sp w0 S0 (Sl.row d e (.slice none 0 0) [] :: l) w := h.more (Upd.refl _ _) (Kd.R_nil _ _ _ _ _)
theorem Sp.opn (h : Sp w0 S0 l w) (i : Nat) (a : Ast) (hi : l[i]? = some a) : ∃ T : Nat → Prop, a.P w T ∧ ∀ (W : World) (b : Ast) (T' : Nat → Prop), (∀ k, T' k → T k) → Upd T' w W → b.P W (New w T) → Sp w0 S0 (l.set i b) W := by
 obtain ⟨u, own, h1, h2⟩ := h
 have hil := (List.getElem?_eq_some_iff.1 hi).1
 refine ⟨_, h2 i a hi, fun W b T' hT hu hb => ⟨u.trans hu (fun k hk => h1 k (by have := hT k hk; omega)), fun k => if w.heap.size ≤ k then i + 1 else own k, fun k hk => ?_, fun j c hc => ?_⟩⟩
 ·
  dsimp only at hk
  by_cases h5 : w.heap.size ≤ k
  ·
   exact .inr (Nat.le_trans u.size h5)
  ·
   rw [if_neg h5] at hk; exact h1 k hk
 ·
  rw [List.getElem?_set] at hc
  split at hc
  ·
   rename_i hij
   subst hij
   cases hc
   refine b.mo hb (fun k hk => ?_)
   show (if w.heap.size ≤ k then i + 1 else own k) = i + 1
   by_cases h5 : w.heap.size ≤ k
   ·
    rw [if_pos h5]
   ·
    rw [if_neg h5]; exact hk.elim id (fun h => absurd h h5)
  ·
   rename_i hij
   refine c.mo (c.up (c.old (h2 j c hc)) hu (fun k hk e => hij ?_)) (fun k hk => ?_)
   ·
    have h6 := hT k e; have h7 := hk.1; omega
   ·
    show (if w.heap.size ≤ k then i + 1 else own k) = j + 1
    rw [if_neg (by have := hk.2; omega)]; exact hk.1
end
theorem cl_ {α : Type} {d : Kd α} {w W : World} {A : Option Addr} {n : Nat} {xs : List α} [Lt w W] (h : Aside0 (d.C w A n xs)) : d.C W A n xs := Kd.C_below h.out (lu : Upd None0 w W).below0
theorem Sp.reads {α : Type} {d : Kd α} {e : Nat} {w0 w : World} {S0 : Nat → Prop} {l : List Ast} {A : Option Addr} {n c : Nat} {xs : List α} (h : Sp w0 S0 l w) (i : Nat) (hi : l[i]? = some (Sl.row d e (.slice A n c) xs) := by rfl) : d.C w A n xs := by
 have h2 := Kd.R_reads' (h.row i hi)
 rw [h2.1]
 exact h2.2.2
section
variable {P : Program} {ops : Array Oper} {rest : List Oper} {o : Oper} {a : Act} {Q : Exit → Act → World → Prop} {w0 w W : World} {S0 : Nat → Prop} {l l2 : List Ast}
theorem sp_cell [Lt w W] (h : Sp w0 S0 l w) (i : Nat) (hgd : o.guard = none) (ty : TypeId) (x y : Operand) (ho : o.op = .store ty x y) (hd : o.dst = none) (g j : Nat) (v : Value) (hx : a.eval x = .pointer (some ⟨g, j, none⟩)) (hy : a.eval y = v)
 (t : TypeId) (old new : Array Value) (hi : l[i]? = some (blk g old t)) (hs : (P.info? ty).map (·.size) = some 1) (hlt : j < old.size) (h1 : v.oneCell' = true) (hn : old.setIfInBounds j v = new) (hl : l.set i (blk g new t) = l2)
 (hk : ∀ w', Sp w0 S0 l2 w' → wpList P ops Q rest a w') : wpList P ops Q (o :: rest) a W := by
 subst hl
 exact cellput hgd ty x y ho hd g j v hx hy t old new (h.blkW i hi) hs hlt h1 hn (fun w' hb hu => hk w' ((h.lt (W := W)).put_ i hi hu hb))
theorem sp_row [Lt w W] (h : Sp w0 S0 l w) (i : Nat) (hgd : o.guard = none) (ty : TypeId) (x y : Operand) (ho : o.op = .store ty x y) (hd : o.dst = none) (g : Nat) (new : Array Value) (hx : a.eval x = .pointer (some ⟨g, 0, none⟩)) (hy : a.eval y = .agg new)
 (t : TypeId) (old : Array Value) (hi : l[i]? = some (blk g old t)) (hs : (P.info? ty).map (·.size) = some new.size) (hold : old.size = new.size) (h1 : new.all (·.oneCell') = true) (hl : l.set i (blk g new t) = l2)
 (hk : ∀ w', Sp w0 S0 l2 w' → wpList P ops Q rest a w') : wpList P ops Q (o :: rest) a W := by
 subst hl
 exact rowput hgd ty x y ho hd g new hx hy t old (h.blkW i hi) hs hold h1 (fun w' hb hu => hk w' ((h.lt (W := W)).put_ i hi hu hb))
theorem sp_box [Lt w W] (h : Sp w0 S0 l w) (hgd : o.guard = none) {N : Tmp} (hd : o.dst = some N) (cs : Array Value) (t : TypeId)
 (hrun : (execOp a.eval o).run P W = .ok (.value (.pointer (some ⟨W.heap.size, 0, none⟩))) (W.alloc (.cells cs t (0, 0))))
 (hk : ∀ g w1, w.heap.size ≤ g → Sp w0 S0 (blk g cs t :: l) w1 → wpList P ops Q rest (a.put o.dst (.pointer (some ⟨g, 0, none⟩))) w1) : wpList P ops Q (o :: rest) a W :=
 boxnew hgd hd hrun (fun g hge w1 hb hu => hk g w1 (Nat.le_trans (lu : Upd None0 w W).size hge) ((h.lt (W := W)).more hu ⟨hge, hb⟩))
theorem sp_lit {α : Type} (d : Kd α) [Lt w W] (h : Sp w0 S0 l w) (e : Nat) (hgd : o.guard = none) {N : Tmp} (hd : o.dst = some N) (xs : List α) (inner : List Value)
 (hrun : (execOp a.eval o).run P W = .ok (.value (.slice (some ⟨W.heap.size, 0, none⟩) xs.length xs.length)) (W.alloc (.cells inner.toArray e)))
 (hrep : Reps (d.M W 0 (fun _ => False)) d.sz xs inner) (hm : xs.length ≤ 9223372036854775807)
 (hk : ∀ A c w1, Sp w0 S0 (row d e (.slice A xs.length c) xs :: l) w1 → wpList P ops Q rest (a.put o.dst (.slice A xs.length c)) w1) : wpList P ops Q (o :: rest) a W :=
 row_lit d e hgd hd hrun hrep hm (fun v1 w1 hr hu => by
  obtain ⟨A, c, rfl⟩ := Kd.R_slice hr
  exact hk A c w1 ((h.lt (W := W)).more hu (row_mono hr (fun k h => h.elim (fun h => h.elim) id))))
theorem sp_app {α : Type} (d : Kd α) [Lt w W] (h : Sp w0 S0 l w) (i : Nat) (hgd : o.guard = none) (s x : Operand) (t e : TypeId) (z : Value) (bytes : Nat)
 (ho : o.op = .call { callee := .builtin .append, args := #[s, x], argTypes := #[t, t] })
 (ht : P.underlying t = some (.slice e)) (hinfo : (P.info? e).map (fun i => (i.zero, i.size, i.bytes)) = some (some z, d.sz, bytes)) (hz : z.cells.size = d.sz) (hs0 : 0 < d.sz) (hb0 : 0 < bytes)
 (v : Value) (xs : List α) (p : α) (cs : List Value) (hs : a.eval s = v) (hx : a.eval x = .slice (some ⟨W.heap.size, 0, none⟩) 1 1) (hp : d.M W 0 (fun _ => False) p cs)
 (hi : l[i]? = some (row d e v xs)) (hl : (xs.length + 1) * bytes ≤ 140737488355328) (ys : List α) (hy : xs ++ [p] = ys) (l2 : Option Addr → Nat → List Ast) (hl2 : ∀ A c, l.set i (row d e (.slice A ys.length c) ys) = l2 A c)
 (hk : ∀ A c w1, Sp w0 S0 (l2 A c) w1 → wpList P ops Q rest (a.put o.dst (.slice A ys.length c)) w1) :
 wpList P ops Q (o :: rest) a (W.alloc (.cells cs.toArray e)) := by
 obtain ⟨T, hT, hw⟩ := (h.lt (W := W)).opn i _ hi
 refine row_append d hgd s x t e z bytes ho ht hinfo hz hs0 hb0 v xs p cs hs hx hp hT hl ys hy (fun v1 w1 hr hu => ?_)
 obtain ⟨A, c, rfl⟩ := Kd.R_slice hr
 refine hk A c w1 ?_
 rw [← hl2]
 exact hw w1 _ _ (fun k hk => row_at hT hk) hu hr
end
end Go.Proofs.Ytcfommconnlhgaa.Sl
namespace Go.Proofs
open Go.Shelf
def Try.lays137_ren : Go.Shelf.Ren := ⟨fun | 137 => 125 | 217 => 127 | 266 => 128 | n => n, fun | 9 => 9 | 5 => 5 | 3 => 3 | n => n, fun | n => n⟩
theorem Try.lays137 : Go.Proofs.Lays.n137 Try.prog Try.lays137_ren := {
 mixed := by kernel_rfl
 f137 := Try.func125.trans (congrArg some zz5)
 f217 := Try.func127.trans (congrArg some zz5)
 f266 := Try.func128.trans (congrArg some zz5)
 t3 := Try.underlying3
 a3 := Try.isAgg3
 z3 := Try.sizeOf3
 v3 := Try.zeroValue3
 t5 := Try.underlying5
 a5 := Try.isAgg5
 z5 := Try.sizeOf5
 v5 := Try.zeroValue5
 t9 := Try.underlying9
 a9 := Try.isAgg9
 z9 := Try.sizeOf9
 v9 := Try.zeroValue9 }
open Go.RowKit in
theorem Try.strings_IndexByte (s : ByteArray) (c : Int) (w : World) :
 Calls Try.prog 125 #[.string s, .int .u8 c] w fun e w' => e = .returned (.int .i64 (Lib.indexByte s.data.toList c.toNat.toUInt8)) ∧ w' = w := Any.strings_IndexByte Try.lays137 s c w
end Go.Proofs
namespace Go.Proofs.Ytcfommconnlhgaa.Days
open RowKit
set_option linter.unusedVariables false
def leap (y : Int) : Bool := (y % 4 == 0 && y % 100 != 0) || y % 400 == 0
def tab (m : Int) : Int := if m = 2 then 28 else if m = 4 ∨ m = 6 ∨ m = 9 ∨ m = 11 then 30 else 31
def days (y m : Int) : Int := if y < 0 ∨ y > 9999 ∨ m < 1 ∨ m > 12 then 0 else if m = 2 ∧ leap y = true then 29 else tab m
theorem bad (y m : Int) (w : World) (h : y < 0 ∨ y > 9999 ∨ m < 1 ∨ m > 12) :
 Calls Try.prog 122 #[.int .i64 y, .int .i64 m] w fun e w' => e = .returned (.int .i64 0) ∧ w' = w := by
 by_cases h1 : y < 0
 ·
  have d1 : decide (y < 0) = true := by simpa using h1
  go_enter Try.func122, Try.ntmps122
  go_wp2
  go_ret
  exact ⟨rfl, rfl⟩
 have d1 : decide (y < 0) = false := by simpa using h1
 by_cases h2 : y > 9999
 ·
  have d2 : decide ((9999 : Int) < y) = true := by simpa using h2
  go_enter Try.func122, Try.ntmps122
  go_wp2
  go_ret
  exact ⟨rfl, rfl⟩
 have d2 : decide ((9999 : Int) < y) = false := by simpa using h2
 by_cases h3 : m < 1
 ·
  have d3 : decide (m < 1) = true := by simpa using h3
  go_enter Try.func122, Try.ntmps122
  go_wp2
  go_ret
  exact ⟨rfl, rfl⟩
 have d3 : decide (m < 1) = false := by simpa using h3
 have d4 : decide ((12 : Int) < m) = true := by simp; omega
 go_enter Try.func122, Try.ntmps122
 go_wp2
 go_ret
 exact ⟨rfl, rfl⟩
theorem at1 (w : World) : (Instr.index 204 (.agg #[.int .i64 31, .int .i64 28, .int .i64 31, .int .i64 30, .int .i64 31, .int .i64 30, .int .i64 31, .int .i64 31, .int .i64 30, .int .i64 31, .int .i64 30, .int .i64 31]) (.int .i64 0)).run Try.prog w = .ok (.int .i64 31) w := by kernel_rfl
theorem at2 (w : World) : (Instr.index 204 (.agg #[.int .i64 31, .int .i64 28, .int .i64 31, .int .i64 30, .int .i64 31, .int .i64 30, .int .i64 31, .int .i64 31, .int .i64 30, .int .i64 31, .int .i64 30, .int .i64 31]) (.int .i64 1)).run Try.prog w = .ok (.int .i64 28) w := by kernel_rfl
theorem at3 (w : World) : (Instr.index 204 (.agg #[.int .i64 31, .int .i64 28, .int .i64 31, .int .i64 30, .int .i64 31, .int .i64 30, .int .i64 31, .int .i64 31, .int .i64 30, .int .i64 31, .int .i64 30, .int .i64 31]) (.int .i64 2)).run Try.prog w = .ok (.int .i64 31) w := by kernel_rfl
theorem at4 (w : World) : (Instr.index 204 (.agg #[.int .i64 31, .int .i64 28, .int .i64 31, .int .i64 30, .int .i64 31, .int .i64 30, .int .i64 31, .int .i64 31, .int .i64 30, .int .i64 31, .int .i64 30, .int .i64 31]) (.int .i64 3)).run Try.prog w = .ok (.int .i64 30) w := by kernel_rfl
theorem at5 (w : World) : (Instr.index 204 (.agg #[.int .i64 31, .int .i64 28, .int .i64 31, .int .i64 30, .int .i64 31, .int .i64 30, .int .i64 31, .int .i64 31, .int .i64 30, .int .i64 31, .int .i64 30, .int .i64 31]) (.int .i64 4)).run Try.prog w = .ok (.int .i64 31) w := by kernel_rfl
theorem at6 (w : World) : (Instr.index 204 (.agg #[.int .i64 31, .int .i64 28, .int .i64 31, .int .i64 30, .int .i64 31, .int .i64 30, .int .i64 31, .int .i64 31, .int .i64 30, .int .i64 31, .int .i64 30, .int .i64 31]) (.int .i64 5)).run Try.prog w = .ok (.int .i64 30) w := by kernel_rfl
theorem at7 (w : World) : (Instr.index 204 (.agg #[.int .i64 31, .int .i64 28, .int .i64 31, .int .i64 30, .int .i64 31, .int .i64 30, .int .i64 31, .int .i64 31, .int .i64 30, .int .i64 31, .int .i64 30, .int .i64 31]) (.int .i64 6)).run Try.prog w = .ok (.int .i64 31) w := by kernel_rfl
theorem at8 (w : World) : (Instr.index 204 (.agg #[.int .i64 31, .int .i64 28, .int .i64 31, .int .i64 30, .int .i64 31, .int .i64 30, .int .i64 31, .int .i64 31, .int .i64 30, .int .i64 31, .int .i64 30, .int .i64 31]) (.int .i64 7)).run Try.prog w = .ok (.int .i64 31) w := by kernel_rfl
theorem at9 (w : World) : (Instr.index 204 (.agg #[.int .i64 31, .int .i64 28, .int .i64 31, .int .i64 30, .int .i64 31, .int .i64 30, .int .i64 31, .int .i64 31, .int .i64 30, .int .i64 31, .int .i64 30, .int .i64 31]) (.int .i64 8)).run Try.prog w = .ok (.int .i64 30) w := by kernel_rfl
theorem at10 (w : World) : (Instr.index 204 (.agg #[.int .i64 31, .int .i64 28, .int .i64 31, .int .i64 30, .int .i64 31, .int .i64 30, .int .i64 31, .int .i64 31, .int .i64 30, .int .i64 31, .int .i64 30, .int .i64 31]) (.int .i64 9)).run Try.prog w = .ok (.int .i64 31) w := by kernel_rfl
theorem at11 (w : World) : (Instr.index 204 (.agg #[.int .i64 31, .int .i64 28, .int .i64 31, .int .i64 30, .int .i64 31, .int .i64 30, .int .i64 31, .int .i64 31, .int .i64 30, .int .i64 31, .int .i64 30, .int .i64 31]) (.int .i64 10)).run Try.prog w = .ok (.int .i64 30) w := by kernel_rfl
theorem at12 (w : World) : (Instr.index 204 (.agg #[.int .i64 31, .int .i64 28, .int .i64 31, .int .i64 30, .int .i64 31, .int .i64 30, .int .i64 31, .int .i64 31, .int .i64 30, .int .i64 31, .int .i64 30, .int .i64 31]) (.int .i64 11)).run Try.prog w = .ok (.int .i64 31) w := by kernel_rfl
theorem good1 (y : Int) (w : World) (h0 : 0 ≤ y) (h1 : y ≤ 9999) :
 Calls Try.prog 122 #[.int .i64 y, .int .i64 1] w fun e w' => e = .returned (.int .i64 31) ∧ w' = w := by
 have d1 : decide (y < 0) = false := by simp; omega
 have d2 : decide ((9999 : Int) < y) = false := by simp; omega
 have i0 := at1
 go_enter Try.func122, Try.ntmps122
 go_wp2
 go_ret
 exact ⟨rfl, rfl⟩
theorem good3 (y : Int) (w : World) (h0 : 0 ≤ y) (h1 : y ≤ 9999) :
 Calls Try.prog 122 #[.int .i64 y, .int .i64 3] w fun e w' => e = .returned (.int .i64 31) ∧ w' = w := by
 have d1 : decide (y < 0) = false := by simp; omega
 have d2 : decide ((9999 : Int) < y) = false := by simp; omega
 have i0 := at3
 go_enter Try.func122, Try.ntmps122
 go_wp2
 go_ret
 exact ⟨rfl, rfl⟩
theorem good4 (y : Int) (w : World) (h0 : 0 ≤ y) (h1 : y ≤ 9999) :
 Calls Try.prog 122 #[.int .i64 y, .int .i64 4] w fun e w' => e = .returned (.int .i64 30) ∧ w' = w := by
 have d1 : decide (y < 0) = false := by simp; omega
 have d2 : decide ((9999 : Int) < y) = false := by simp; omega
 have i0 := at4
 go_enter Try.func122, Try.ntmps122
 go_wp2
 go_ret
 exact ⟨rfl, rfl⟩
theorem good5 (y : Int) (w : World) (h0 : 0 ≤ y) (h1 : y ≤ 9999) :
 Calls Try.prog 122 #[.int .i64 y, .int .i64 5] w fun e w' => e = .returned (.int .i64 31) ∧ w' = w := by
 have d1 : decide (y < 0) = false := by simp; omega
 have d2 : decide ((9999 : Int) < y) = false := by simp; omega
 have i0 := at5
 go_enter Try.func122, Try.ntmps122
 go_wp2
 go_ret
 exact ⟨rfl, rfl⟩
theorem good6 (y : Int) (w : World) (h0 : 0 ≤ y) (h1 : y ≤ 9999) :
 Calls Try.prog 122 #[.int .i64 y, .int .i64 6] w fun e w' => e = .returned (.int .i64 30) ∧ w' = w := by
 have d1 : decide (y < 0) = false := by simp; omega
 have d2 : decide ((9999 : Int) < y) = false := by simp; omega
 have i0 := at6
 go_enter Try.func122, Try.ntmps122
 go_wp2
 go_ret
 exact ⟨rfl, rfl⟩
theorem good7 (y : Int) (w : World) (h0 : 0 ≤ y) (h1 : y ≤ 9999) :
 Calls Try.prog 122 #[.int .i64 y, .int .i64 7] w fun e w' => e = .returned (.int .i64 31) ∧ w' = w := by
 have d1 : decide (y < 0) = false := by simp; omega
 have d2 : decide ((9999 : Int) < y) = false := by simp; omega
 have i0 := at7
 go_enter Try.func122, Try.ntmps122
 go_wp2
 go_ret
 exact ⟨rfl, rfl⟩
theorem good8 (y : Int) (w : World) (h0 : 0 ≤ y) (h1 : y ≤ 9999) :
 Calls Try.prog 122 #[.int .i64 y, .int .i64 8] w fun e w' => e = .returned (.int .i64 31) ∧ w' = w := by
 have d1 : decide (y < 0) = false := by simp; omega
 have d2 : decide ((9999 : Int) < y) = false := by simp; omega
 have i0 := at8
 go_enter Try.func122, Try.ntmps122
 go_wp2
 go_ret
 exact ⟨rfl, rfl⟩
theorem good9 (y : Int) (w : World) (h0 : 0 ≤ y) (h1 : y ≤ 9999) :
 Calls Try.prog 122 #[.int .i64 y, .int .i64 9] w fun e w' => e = .returned (.int .i64 30) ∧ w' = w := by
 have d1 : decide (y < 0) = false := by simp; omega
 have d2 : decide ((9999 : Int) < y) = false := by simp; omega
 have i0 := at9
 go_enter Try.func122, Try.ntmps122
 go_wp2
 go_ret
 exact ⟨rfl, rfl⟩
theorem good10 (y : Int) (w : World) (h0 : 0 ≤ y) (h1 : y ≤ 9999) :
 Calls Try.prog 122 #[.int .i64 y, .int .i64 10] w fun e w' => e = .returned (.int .i64 31) ∧ w' = w := by
 have d1 : decide (y < 0) = false := by simp; omega
 have d2 : decide ((9999 : Int) < y) = false := by simp; omega
 have i0 := at10
 go_enter Try.func122, Try.ntmps122
 go_wp2
 go_ret
 exact ⟨rfl, rfl⟩
theorem good11 (y : Int) (w : World) (h0 : 0 ≤ y) (h1 : y ≤ 9999) :
 Calls Try.prog 122 #[.int .i64 y, .int .i64 11] w fun e w' => e = .returned (.int .i64 30) ∧ w' = w := by
 have d1 : decide (y < 0) = false := by simp; omega
 have d2 : decide ((9999 : Int) < y) = false := by simp; omega
 have i0 := at11
 go_enter Try.func122, Try.ntmps122
 go_wp2
 go_ret
 exact ⟨rfl, rfl⟩
theorem good12 (y : Int) (w : World) (h0 : 0 ≤ y) (h1 : y ≤ 9999) :
 Calls Try.prog 122 #[.int .i64 y, .int .i64 12] w fun e w' => e = .returned (.int .i64 31) ∧ w' = w := by
 have d1 : decide (y < 0) = false := by simp; omega
 have d2 : decide ((9999 : Int) < y) = false := by simp; omega
 have i0 := at12
 go_enter Try.func122, Try.ntmps122
 go_wp2
 go_ret
 exact ⟨rfl, rfl⟩
set_option maxHeartbeats 4000000 in
theorem feb (y : Int) (w : World) (h0 : 0 ≤ y) (h1 : y ≤ 9999) (a b c : Bool) (ha : (y % 4 == 0) = a) (hb : (y % 100 == 0) = b) (hc : (y % 400 == 0) = c) :
 Calls Try.prog 122 #[.int .i64 y, .int .i64 2] w fun e w' => e = .returned (.int .i64 (if ((a && !b) || c) = true then 29 else 28)) ∧ w' = w := by
 have d1 : decide (y < 0) = false := by simp; omega
 have d2 : decide ((9999 : Int) < y) = false := by simp; omega
 have i0 := at2
 have t4 : Int.tmod y 4 = y % 4 := Int.tmod_eq_emod_of_nonneg h0
 have t100 : Int.tmod y 100 = y % 100 := Int.tmod_eq_emod_of_nonneg h0
 have t400 : Int.tmod y 400 = y % 400 := Int.tmod_eq_emod_of_nonneg h0
 have hb' : (y % 100 != 0) = !b := by rw [bne, hb]
 cases a <;> cases b <;> cases c
 all_goals
  simp only [Bool.not_true, Bool.not_false] at hb'
  go_enter Try.func122, Try.ntmps122
  go_wp2
  go_ret
  exact ⟨rfl, rfl⟩
theorem days_any (y m : Int) (w : World) :
 Calls Try.prog 122 #[.int .i64 y, .int .i64 m] w fun e w' => e = .returned (.int .i64 (days y m)) ∧ w' = w := by
 unfold days
 by_cases h : y < 0 ∨ y > 9999 ∨ m < 1 ∨ m > 12
 ·
  rw [if_pos h]; exact bad y m w h
 rw [if_neg h]
 have h0 : 0 ≤ y := by omega
 have h1 : y ≤ 9999 := by omega
 by_cases h2 : m = 2
 ·
  subst h2
  have := feb y w h0 h1 _ _ _ rfl rfl rfl
  simp only [true_and]
  have e : (if leap y = true then (29 : Int) else tab 2) = (if ((y % 4 == 0 && !(y % 100 == 0)) || y % 400 == 0) = true then 29 else 28) := rfl
  rw [e]; exact this
 ·
  rw [if_neg (by rintro ⟨h3, _⟩; exact h2 h3)]
  rcases (zz4 : m = 1 ∨ m = 3 ∨ m = 4 ∨ m = 5 ∨ m = 6 ∨ m = 7 ∨ m = 8 ∨ m = 9 ∨ m = 10 ∨ m = 11 ∨ m = 12) with rfl | rfl | rfl | rfl | rfl | rfl | rfl | rfl | rfl | rfl | rfl
  ·
   exact good1 y w h0 h1
  ·
   exact good3 y w h0 h1
  ·
   exact good4 y w h0 h1
  ·
   exact good5 y w h0 h1
  ·
   exact good6 y w h0 h1
  ·
   exact good7 y w h0 h1
  ·
   exact good8 y w h0 h1
  ·
   exact good9 y w h0 h1
  ·
   exact good10 y w h0 h1
  ·
   exact good11 y w h0 h1
  ·
   exact good12 y w h0 h1
end Go.Proofs.Ytcfommconnlhgaa.Days
