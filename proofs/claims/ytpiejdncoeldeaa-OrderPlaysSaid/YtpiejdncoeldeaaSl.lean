/- Assertions on the blocks that a function owns, side by side, and how a store, a new block, an append, a call turns them. -/
import Derived.Test.YtpiejdncoeldeaaOwn
namespace Go.Proofs.Ytpiejdncoeldeaa.Sl
open Go.RowKit Go.Proofs.YtpiejdncoeldeaaW.PrintWords Go.Proofs.YtpiejdncoeldeaaW.PrintLast Go.Proofs.YtpiejdncoeldeaaW.PrintMore Go.Proofs.Ytpiejdncoeldeaa.Own
set_option linter.unusedVariables false

/-- An assertion: of a world and the blocks in which it lies. -/
structure Ast where
  P : World → (Nat → Prop) → Prop
  up : ∀ {w W : World} {S T : Nat → Prop}, P w S → Upd T w W → (∀ k, S k → ¬ T k) → P W S
  mo : ∀ {w : World} {S S' : Nat → Prop}, P w S → (∀ k, S k → S' k) → P w S'
  old : ∀ {w : World} {S : Nat → Prop}, P w S → P w (fun k => S k ∧ k < w.heap.size)
/-- Assertions side by side, in blocks of S. -/
def Hs (w : World) (S : Nat → Prop) (l : List Ast) : Prop :=
  ∃ own : Nat → Nat, (∀ k, own k ≠ 0 → S k) ∧ ∀ (i : Nat) (a : Ast), l[i]? = some a → a.P w (fun k => own k = i + 1)
theorem Hs.up {w W : World} {S T : Nat → Prop} {l : List Ast} (h : Hs w S l) (hu : Upd T w W) (hd : ∀ k, S k → ¬ T k) : Hs W S l := by
  obtain ⟨own, h1, h2⟩ := h
  exact ⟨own, h1, fun i a ha => a.up (h2 i a ha) hu (fun k hk => hd k (h1 k (by omega)))⟩
theorem Hs.mo {w : World} {S S' : Nat → Prop} {l : List Ast} (h : Hs w S l) (hs : ∀ k, S k → S' k) : Hs w S' l := by
  obtain ⟨own, h1, h2⟩ := h
  exact ⟨own, fun k hk => hs k (h1 k hk), h2⟩
open Classical in
theorem Hs.old {w : World} {S : Nat → Prop} {l : List Ast} (h : Hs w S l) : Hs w (fun k => S k ∧ k < w.heap.size) l := by
  obtain ⟨own, h1, h2⟩ := h
  refine ⟨fun k => if k < w.heap.size then own k else 0, fun k hk => ?_, fun i a ha => a.mo (a.old (h2 i a ha)) (fun k hk => ?_)⟩
  · dsimp only at hk
    by_cases hlt : k < w.heap.size
    · rw [if_pos hlt] at hk; exact ⟨h1 k hk, hlt⟩
    · rw [if_neg hlt] at hk; exact absurd rfl hk
  · exact (if_pos hk.2).trans hk.1
def blk (g : Nat) (cs : Array Value) (t : Nat) : Ast where
  P w S := S g ∧ w.heap[g]? = some (.cells cs t (0, 0))
  up h hu hd := ⟨h.1, hu.blk h.2 (hd g h.1)⟩
  mo h hs := ⟨hs g h.1, h.2⟩
  old h := ⟨⟨h.1, blk_lt h.2⟩, h.2⟩
def row {α : Type} (d : Kd α) (e : Nat) (v : Value) (xs : List α) : Ast where
  P w S := d.R e w 0 S v xs
  up h hu hd := row_upd h hu hd
  mo h hs := row_mono h hs
  old h := row_old h
def ex {α : Type} (f : α → Ast) : Ast where
  P w S := ∃ a, (f a).P w S
  up h hu hd := h.elim fun a h => ⟨a, (f a).up h hu hd⟩
  mo h hs := h.elim fun a h => ⟨a, (f a).mo h hs⟩
  old h := h.elim fun a h => ⟨a, (f a).old h⟩
def sep (l : List Ast) : Ast where
  P w S := Hs w S l
  up h hu hd := h.up hu hd
  mo h hs := h.mo hs
  old h := h.old
def pu (p : Prop) : Ast where
  P _ _ := p
  up h _ _ := h
  mo h _ := h
  old h := h
/-- Behind w0, of whose blocks those of S0 alone may have turned: what lies in these and in new ones. -/
structure Sp (w0 : World) (S0 : Nat → Prop) (l : List Ast) (w : World) : Prop where
  u : Upd S0 w0 w
  h : Hs w (New w0 S0) l
section
variable {w0 w W w2 : World} {S0 S : Nat → Prop} {l l1 l2 l3 : List Ast} {a : Ast}
theorem Sp.start (h : Hs w S l) : Sp w S l w := ⟨Upd.refl _ _, h.mo (fun _ h => .inl h)⟩
theorem Sp.nil : Sp w S [] w := Sp.start ⟨fun _ => 0, fun k h => absurd rfl h, fun i a h => by simp at h⟩
theorem Sp.to (h : Sp w0 S0 l w) (hu : Upd None0 w W) : Sp w0 S0 l W := ⟨h.u.trans hu (fun _ h => h.elim), h.h.up hu (fun _ _ h => h)⟩
theorem Sp.lt [hl : Lt w W] (h : Sp w0 S0 l w) : Sp w0 S0 l W := h.to (Lt.u hl)
/-- In another order; some may be dropped. -/
theorem Hs.sel (h : Hs w S l) (ix : List Nat) (hn : ix.Nodup) (he : ix.map (l[·]?) = l2.map some) : Hs w S l2 := by
  obtain ⟨own, h1, h2⟩ := h
  refine ⟨fun k => if own k = 0 then 0 else (ix.idxOf (own k - 1) + 1) % (ix.length + 1), fun k hk => h1 k (fun h0 => hk (if_pos h0)), fun i a ha => ?_⟩
  have hlen : ix.length = l2.length := by have := congrArg List.length he; simpa using this
  have hi : i < l2.length := (List.getElem?_eq_some_iff.1 ha).1
  have hix : i < ix.length := by omega
  have he2 : l[ix[i]]? = some a := by
    have := congrArg (fun q => q[i]?) he
    simp [hix, ha] at this
    exact this
  refine a.mo (h2 _ a he2) (fun k hk => ?_)
  have h3 : ix.idxOf (ix[i]) = i := hn.idxOf_getElem i hix
  show (if own k = 0 then 0 else (ix.idxOf (own k - 1) + 1) % (ix.length + 1)) = i + 1
  rw [if_neg (by omega), hk, Nat.add_sub_cancel, h3, Nat.mod_eq_of_lt (by omega)]
theorem Sp.sel (h : Sp w0 S0 l w) (ix : List Nat) (he : ix.map (l[·]?) = l2.map some := by rfl) (hn : ix.Nodup := by decide) : Sp w0 S0 l2 w := ⟨h.u, h.h.sel ix hn he⟩
/-- An assertion's own, at its place. -/
theorem Hs.set (h : Hs w S l) (i : Nat) (a b : Ast) (hi : l[i]? = some a) (hf : ∀ T, a.P w T → b.P w T) : Hs w S (l.set i b) := by
  obtain ⟨own, h1, h2⟩ := h
  refine ⟨own, h1, fun j c hc => ?_⟩
  rw [List.getElem?_set] at hc
  split at hc
  · rename_i hij
    subst hij
    split at hc
    · cases hc; exact hf _ (h2 _ a hi)
    · cases hc
  · exact h2 j c hc
theorem Hs.get (h : Hs w S l) (i : Nat) (a : Ast) (hi : l[i]? = some a) : a.P w S := by
  obtain ⟨own, h1, h2⟩ := h
  exact a.mo (h2 i a hi) (fun k hk => h1 k (by omega))
theorem Hs.ex0 {α : Type} {f : α → Ast} (h : Hs w S (ex f :: l)) : ∃ x, Hs w S (f x :: l) := by
  obtain ⟨own, h1, h2⟩ := h
  obtain ⟨x, hx⟩ := h2 0 _ rfl
  refine ⟨x, own, h1, fun j c hc => ?_⟩
  cases j with
  | zero => cases hc; exact hx
  | succ j => exact h2 (j + 1) c hc
theorem Hs.exI {α : Type} {f : α → Ast} (x : α) (h : Hs w S (f x :: l)) : Hs w S (ex f :: l) := h.set 0 (f x) (ex f) rfl (fun T hT => ⟨x, hT⟩)
theorem Hs.pu0 {p : Prop} (h : Hs w S (pu p :: l)) : p := h.get 0 _ rfl
open Classical in
/-- What lies in one, side by side with the rest. -/
theorem Hs.flat (h : Hs w S (sep l1 :: l)) : Hs w S (l1 ++ l) := by
  obtain ⟨own, h1, h2⟩ := h
  obtain ⟨o2, h3, h4⟩ := h2 0 _ rfl
  refine ⟨fun k => if own k = 0 then 0 else if own k = 1 then (if o2 k ≤ l1.length then o2 k else 0) else own k - 1 + l1.length, fun k hk => h1 k (fun h0 => hk (if_pos h0)), fun i a ha => ?_⟩
  by_cases hi : i < l1.length
  · rw [List.getElem?_append_left hi] at ha
    refine a.mo (h4 i a ha) (fun k hk => ?_)
    have h5 : own k = 1 := h3 k (by omega)
    show (if own k = 0 then 0 else _) = _
    rw [if_neg (by omega), if_pos h5, hk, if_pos (by omega)]
  · rw [List.getElem?_append_right (by omega)] at ha
    refine a.mo (h2 (i - l1.length + 1) a (by simpa using ha)) (fun k hk => ?_)
    show (if own k = 0 then 0 else _) = _
    rw [if_neg (by omega), if_neg (by omega), hk]; omega
theorem Hs.fold (l1 : List Ast) (h : Hs w S (l1 ++ l)) : Hs w S (sep l1 :: l) := by
  obtain ⟨own, h1, h2⟩ := h
  refine ⟨fun k => if own k = 0 then 0 else if own k ≤ l1.length then 1 else own k - l1.length + 1, fun k hk => h1 k (fun h0 => hk (if_pos h0)), fun i a ha => ?_⟩
  cases i with
  | zero =>
    cases ha
    refine ⟨fun k => if own k ≤ l1.length then own k else 0, fun k hk => ?_, fun j b hb => ?_⟩
    · show (if own k = 0 then 0 else _) = _
      dsimp only at hk
      by_cases h5 : own k ≤ l1.length
      · rw [if_pos h5] at hk; rw [if_neg hk, if_pos h5]
      · rw [if_neg h5] at hk; exact absurd rfl hk
    · have hj := (List.getElem?_eq_some_iff.1 hb).1
      refine b.mo (h2 j b (by rw [List.getElem?_append_left hj]; exact hb)) (fun k hk => ?_)
      show (if own k ≤ l1.length then own k else 0) = _
      rw [if_pos (by omega), hk]
  | succ i =>
    refine a.mo (h2 (i + l1.length) a (by rw [List.getElem?_append_right (by omega)]; simpa using ha)) (fun k hk => ?_)
    show (if own k = 0 then 0 else _) = _
    rw [if_neg (by omega), if_neg (by omega), hk]; omega
theorem Sp.ex0 {α : Type} {f : α → Ast} (h : Sp w0 S0 (ex f :: l) w) : ∃ x, Sp w0 S0 (f x :: l) w := h.h.ex0.elim fun x hx => ⟨x, h.u, hx⟩
theorem Sp.exI {α : Type} {f : α → Ast} (x : α) (h : Sp w0 S0 (f x :: l) w) : Sp w0 S0 (ex f :: l) w := ⟨h.u, h.h.exI x⟩
theorem Sp.flat (h : Sp w0 S0 (sep l1 :: l) w) : Sp w0 S0 (l1 ++ l) w := ⟨h.u, h.h.flat⟩
theorem Sp.fold (l1 : List Ast) (h : Sp w0 S0 (l1 ++ l) w) : Sp w0 S0 (sep l1 :: l) w := ⟨h.u, h.h.fold l1⟩
/-- One that is shown of the blocks of another (the same place). -/
theorem Sp.turn (h : Sp w0 S0 l w) (i : Nat) (a b : Ast) (hi : l[i]? = some a) (hf : ∀ T, a.P w T → b.P w T) : Sp w0 S0 (l.set i b) w := ⟨h.u, h.h.set i a b hi hf⟩
theorem Sp.swap {b : Ast} (h : Sp w0 S0 (a :: b :: l) w) : Sp w0 S0 (b :: a :: l) w := by
  obtain ⟨u, own, h1, h2⟩ := h
  refine ⟨u, fun k => if own k = 1 then 2 else if own k = 2 then 1 else own k, fun k hk => h1 k (fun e => ?_), fun i c hc => ?_⟩
  · dsimp only at hk
    rw [if_neg (by omega), if_neg (by omega)] at hk; exact hk e
  · match i with
    | 0 => exact c.mo (h2 1 c hc) (fun k hk => by show (if own k = 1 then 2 else if own k = 2 then 1 else own k) = 1; rw [if_neg (by omega), if_pos hk])
    | 1 => exact c.mo (h2 0 c hc) (fun k hk => by show (if own k = 1 then 2 else if own k = 2 then 1 else own k) = 2; rw [if_pos hk])
    | i + 2 => exact c.mo (h2 (i + 2) c hc) (fun k hk => by show (if own k = 1 then 2 else if own k = 2 then 1 else own k) = i + 2 + 1; rw [if_neg (by omega), if_neg (by omega), hk])
/-! A call on the first ones. -/
noncomputable def Sp.ft (h : Sp w0 S0 l w) (n : Nat) : Nat → Prop := fun k => h.h.choose k ≠ 0 ∧ h.h.choose k ≤ n
theorem Sp.pre [hl : Lt w W] (h : Sp w0 S0 l w) (n : Nat) (he : l.take n = l1 := by rfl) : Hs W (h.ft n) l1 := by
  subst he
  refine (show Hs w (h.ft n) (l.take n) from ?_).up (Lt.u hl) (fun _ _ h => h)
  refine ⟨fun k => if h.h.choose k ≤ n then h.h.choose k else 0, fun k hk => ?_, fun i a ha => ?_⟩
  · dsimp only at hk
    by_cases h5 : h.h.choose k ≤ n
    · rw [if_pos h5] at hk; exact ⟨hk, h5⟩
    · rw [if_neg h5] at hk; exact absurd rfl hk
  · obtain ⟨hi, hv⟩ := List.getElem?_eq_some_iff.1 ha
    rw [List.length_take] at hi
    refine a.mo (h.h.choose_spec.2 i a (by rw [List.getElem?_take, if_pos (by omega)] at ha; exact ha)) (fun k hk => ?_)
    show (if h.h.choose k ≤ n then h.h.choose k else 0) = _
    rw [hk, if_pos (by omega)]
open Classical in
theorem Sp.post [hl : Lt w W] (h : Sp w0 S0 l w) (n : Nat) (hq : Sp W (h.ft n) l2 w2) (he : l.drop n = l3 := by rfl) : Sp w0 S0 (l2 ++ l3) w2 := by
  subst he
  have hs := h.h.choose_spec
  have hwW : w.heap.size ≤ W.heap.size := (Lt.u hl).size
  refine ⟨h.u.trans (((Lt.u hl).mono (S' := h.ft n) (fun _ h => h.elim)).trans hq.u (fun k hk => .inl hk)) (fun k hk => hs.1 k hk.1), ?_⟩
  obtain ⟨o2, h1, h2⟩ := hq.h
  refine ⟨fun k => if o2 k ≠ 0 then (if o2 k ≤ l2.length then o2 k else 0) else if n < h.h.choose k ∧ k < w.heap.size then h.h.choose k - n + l2.length else 0, fun k hk => ?_, fun i a ha => ?_⟩
  · dsimp only at hk
    by_cases h5 : o2 k ≠ 0
    · exact (h1 k h5).elim (fun h6 => hs.1 k h6.1) (fun h6 => .inr (Nat.le_trans h.u.size (Nat.le_trans hwW h6)))
    · rw [if_neg h5] at hk
      split at hk
      · rename_i h6; exact hs.1 k (by omega)
      · exact absurd rfl hk
  · by_cases hi : i < l2.length
    · rw [List.getElem?_append_left hi] at ha
      refine a.mo (h2 i a ha) (fun k hk => ?_)
      show (if o2 k ≠ 0 then _ else _) = _
      rw [if_pos (by omega), if_pos (by omega), hk]
    · rw [List.getElem?_append_right (by omega)] at ha
      have h3 := a.old (hs.2 (i - l2.length + n) a (by rw [List.getElem?_drop] at ha; rw [Nat.add_comm]; exact ha))
      have h4 := a.up (a.up h3 (Lt.u hl) (fun _ _ h => h)) hq.u (fun k hk hf => by have := hf.2; have := hk.1; omega)
      refine a.mo h4 (fun k hk => ?_)
      have hk1 := hk.1
      have hk2 := hk.2
      have h5 : ¬ o2 k ≠ 0 := fun h5 => by
        rcases h1 k h5 with h6 | h6
        · have := h6.2; omega
        · omega
      show (if o2 k ≠ 0 then _ else _) = _
      rw [if_neg h5, if_pos (by omega), hk1]
      omega
theorem Sp.pre1 [hl : Lt w W] (h : Sp w0 S0 (a :: l) w) : Hs W (h.ft 1) [a] := h.pre 1
theorem Sp.post1 [hl : Lt w W] {b : Ast} (h : Sp w0 S0 (a :: l) w) (hq : Sp W (h.ft 1) [b] w2) : Sp w0 S0 (b :: l) w2 := h.post 1 hq
theorem Sp.post1s [hl : Lt w W] (h : Sp w0 S0 (a :: l) w) (hq : Sp W (h.ft 1) l2 w2) : Sp w0 S0 (l2 ++ l) w2 := h.post 1 hq
theorem Sp.post0 [hl : Lt w W] {b : Ast} (h : Sp w0 S0 l w) (hq : Sp W (h.ft 0) [b] w2) : Sp w0 S0 (b :: l) w2 := h.post 0 hq
theorem Sp.pre2 [hl : Lt w W] {b : Ast} (h : Sp w0 S0 (a :: b :: l) w) : Hs W (h.ft 2) [a, b] := h.pre 2
theorem Sp.post2 [hl : Lt w W] {b c d : Ast} (h : Sp w0 S0 (a :: b :: l) w) (hq : Sp W (h.ft 2) [c, d] w2) : Sp w0 S0 (c :: d :: l) w2 := h.post 2 hq
/-! Blocks, rows. -/
theorem Sp.blk {g t : Nat} {cs : Array Value} (h : Sp w0 S0 l w) (i : Nat) (hi : l[i]? = some (blk g cs t) := by rfl) : w.heap[g]? = some (.cells cs t (0, 0)) := (h.h.get i _ hi).2
theorem Sp.blkW [hl : Lt w W] {g t : Nat} {cs : Array Value} (h : Sp w0 S0 l w) (i : Nat) (hi : l[i]? = some (Sl.blk g cs t) := by rfl) : W.heap[g]? = some (.cells cs t (0, 0)) := (Lt.u hl).blk (h.blk i hi) (fun h => h)
theorem Sp.row {α : Type} {d : Kd α} {e : Nat} {v : Value} {xs : List α} (h : Sp w0 S0 l w) (i : Nat) (hi : l[i]? = some (row d e v xs) := by rfl) : d.R e w 0 (New w0 S0) v xs := h.h.get i _ hi
theorem Sp.cell {g t : Nat} {cs : Array Value} (h : Sp w0 S0 l w) (i j : Nat) (v : Value) (hi : l[i]? = some (Sl.blk g cs t) := by rfl) (hv : cs[j]? = some v := by rfl) : w.cell? ⟨g, j, none⟩ = some v := (blk_cell (h.blk i hi) j).trans hv
theorem Sp.fz {g t : Nat} {cs : Array Value} (h : Sp w0 S0 l w) (i : Nat) (hi : l[i]? = some (Sl.blk g cs t) := by rfl) : ∀ j, w.frozen? ⟨g, j, none⟩ = false := fun j => blk_frozen (h.blk i hi) j
theorem Sp.cells1 {g t : Nat} {a0 : Value} (h : Sp w0 S0 l w) (i : Nat) (hi : l[i]? = some (Sl.blk g #[a0] t) := by rfl) : w.cell? ⟨g, 0, none⟩ = some a0 := h.cell i 0 _ hi
theorem Sp.cells2 {g t : Nat} {a0 a1 : Value} (h : Sp w0 S0 l w) (i : Nat) (hi : l[i]? = some (Sl.blk g #[a0, a1] t) := by rfl) : w.cell? ⟨g, 0, none⟩ = some a0 ∧ w.cell? ⟨g, 1, none⟩ = some a1 := ⟨h.cell i 0 _ hi, h.cell i 1 _ hi⟩
theorem Sp.cells3 {g t : Nat} {a0 a1 a2 : Value} (h : Sp w0 S0 l w) (i : Nat) (hi : l[i]? = some (Sl.blk g #[a0, a1, a2] t) := by rfl) : w.cell? ⟨g, 0, none⟩ = some a0 ∧ w.cell? ⟨g, 1, none⟩ = some a1 ∧ w.cell? ⟨g, 2, none⟩ = some a2 := ⟨h.cell i 0 _ hi, h.cell i 1 _ hi, h.cell i 2 _ hi⟩
theorem Sp.cells4 {g t : Nat} {a0 a1 a2 a3 : Value} (h : Sp w0 S0 l w) (i : Nat) (hi : l[i]? = some (Sl.blk g #[a0, a1, a2, a3] t) := by rfl) : w.cell? ⟨g, 0, none⟩ = some a0 ∧ w.cell? ⟨g, 1, none⟩ = some a1 ∧ w.cell? ⟨g, 2, none⟩ = some a2 ∧ w.cell? ⟨g, 3, none⟩ = some a3 := ⟨h.cell i 0 _ hi, h.cell i 1 _ hi, h.cell i 2 _ hi, h.cell i 3 _ hi⟩
theorem Sp.cells5 {g t : Nat} {a0 a1 a2 a3 a4 : Value} (h : Sp w0 S0 l w) (i : Nat) (hi : l[i]? = some (Sl.blk g #[a0, a1, a2, a3, a4] t) := by rfl) : w.cell? ⟨g, 0, none⟩ = some a0 ∧ w.cell? ⟨g, 1, none⟩ = some a1 ∧ w.cell? ⟨g, 2, none⟩ = some a2 ∧ w.cell? ⟨g, 3, none⟩ = some a3 ∧ w.cell? ⟨g, 4, none⟩ = some a4 := ⟨h.cell i 0 _ hi, h.cell i 1 _ hi, h.cell i 2 _ hi, h.cell i 3 _ hi, h.cell i 4 _ hi⟩
theorem Sp.cells6 {g t : Nat} {a0 a1 a2 a3 a4 a5 : Value} (h : Sp w0 S0 l w) (i : Nat) (hi : l[i]? = some (Sl.blk g #[a0, a1, a2, a3, a4, a5] t) := by rfl) : w.cell? ⟨g, 0, none⟩ = some a0 ∧ w.cell? ⟨g, 1, none⟩ = some a1 ∧ w.cell? ⟨g, 2, none⟩ = some a2 ∧ w.cell? ⟨g, 3, none⟩ = some a3 ∧ w.cell? ⟨g, 4, none⟩ = some a4 ∧ w.cell? ⟨g, 5, none⟩ = some a5 := ⟨h.cell i 0 _ hi, h.cell i 1 _ hi, h.cell i 2 _ hi, h.cell i 3 _ hi, h.cell i 4 _ hi, h.cell i 5 _ hi⟩
theorem Sp.cells7 {g t : Nat} {a0 a1 a2 a3 a4 a5 a6 : Value} (h : Sp w0 S0 l w) (i : Nat) (hi : l[i]? = some (Sl.blk g #[a0, a1, a2, a3, a4, a5, a6] t) := by rfl) : w.cell? ⟨g, 0, none⟩ = some a0 ∧ w.cell? ⟨g, 1, none⟩ = some a1 ∧ w.cell? ⟨g, 2, none⟩ = some a2 ∧ w.cell? ⟨g, 3, none⟩ = some a3 ∧ w.cell? ⟨g, 4, none⟩ = some a4 ∧ w.cell? ⟨g, 5, none⟩ = some a5 ∧ w.cell? ⟨g, 6, none⟩ = some a6 := ⟨h.cell i 0 _ hi, h.cell i 1 _ hi, h.cell i 2 _ hi, h.cell i 3 _ hi, h.cell i 4 _ hi, h.cell i 5 _ hi, h.cell i 6 _ hi⟩
theorem Sp.cells8 {g t : Nat} {a0 a1 a2 a3 a4 a5 a6 a7 : Value} (h : Sp w0 S0 l w) (i : Nat) (hi : l[i]? = some (Sl.blk g #[a0, a1, a2, a3, a4, a5, a6, a7] t) := by rfl) : w.cell? ⟨g, 0, none⟩ = some a0 ∧ w.cell? ⟨g, 1, none⟩ = some a1 ∧ w.cell? ⟨g, 2, none⟩ = some a2 ∧ w.cell? ⟨g, 3, none⟩ = some a3 ∧ w.cell? ⟨g, 4, none⟩ = some a4 ∧ w.cell? ⟨g, 5, none⟩ = some a5 ∧ w.cell? ⟨g, 6, none⟩ = some a6 ∧ w.cell? ⟨g, 7, none⟩ = some a7 := ⟨h.cell i 0 _ hi, h.cell i 1 _ hi, h.cell i 2 _ hi, h.cell i 3 _ hi, h.cell i 4 _ hi, h.cell i 5 _ hi, h.cell i 6 _ hi, h.cell i 7 _ hi⟩
theorem Sp.cellW [hl : Lt w W] {g t : Nat} {cs : Array Value} (h : Sp w0 S0 l w) (i j : Nat) (v : Value) (hi : l[i]? = some (Sl.blk g cs t)) (hv : cs[j]? = some v) : W.cell? ⟨g, j, none⟩ = some v := (blk_cell (h.blkW i hi) j).trans hv
/-- A block of one assertion is written. -/
theorem Sp.put_ {g t : Nat} {cs cs' : Array Value} (h : Sp w0 S0 l w) (i : Nat) (hi : l[i]? = some (Sl.blk g cs t)) (hu : Upd (fun k => k = g) w W) (hb : W.heap[g]? = some (.cells cs' t (0, 0))) : Sp w0 S0 (l.set i (Sl.blk g cs' t)) W := by
  obtain ⟨u, own, h1, h2⟩ := h
  have hg := (h2 i _ hi).1
  refine ⟨u.trans hu (fun k hk => ?_), own, h1, fun j a ha => ?_⟩
  · rw [hk]; exact h1 g (by show own g ≠ 0; have : own g = i + 1 := hg; omega)
  · rw [List.getElem?_set] at ha
    split at ha
    · rename_i hij
      subst hij
      split at ha
      · cases ha; exact ⟨hg, hb⟩
      · cases ha
    · rename_i hij
      refine a.up (h2 j a ha) hu (fun k hk e => hij ?_)
      have e : k = g := e
      subst e
      have h6 : own k = i + 1 := hg
      have h7 : own k = j + 1 := hk
      omega
/-- Its cell, by an equation. -/
theorem Sp.set_ {g t : Nat} {cs cs' : Array Value} (h : Sp w0 S0 l w) (i j : Nat) (v : Value) (hi : l[i]? = some (Sl.blk g cs t) := by rfl) (hn : cs.setIfInBounds j v = cs' := by rfl) : Sp w0 S0 (l.set i (Sl.blk g cs' t)) (w.setCell ⟨g, j, none⟩ v) := by
  have hb := h.blk i hi
  refine h.put_ i hi ?_ (blk_put hb j v hn)
  rw [setCell_eq_setRow w g j cs t (0, 0) v hb]
  exact upd_setRow w g _
open Classical in
/-- One more, in new blocks. -/
theorem Sp.more (h : Sp w0 S0 l w) (hu : Upd None0 w W) (ha : a.P W (fun k => w.heap.size ≤ k)) : Sp w0 S0 (a :: l) W := by
  obtain ⟨u, own, h1, h2⟩ := h
  refine ⟨u.trans hu (fun _ h => h.elim), fun k => if w.heap.size ≤ k then 1 else if own k = 0 then 0 else own k + 1, fun k hk => ?_, fun j b hb => ?_⟩
  · dsimp only at hk
    by_cases h5 : w.heap.size ≤ k
    · exact .inr (Nat.le_trans u.size h5)
    · rw [if_neg h5] at hk
      exact h1 k (fun e => by rw [if_pos e] at hk; exact hk rfl)
  · cases j with
    | zero => cases hb; exact a.mo ha (fun k hk => if_pos hk)
    | succ j =>
      refine b.mo (b.up (b.old (h2 j b hb)) hu (fun _ _ h => h)) (fun k hk => ?_)
      have hk1 : own k = j + 1 := hk.1
      have hk2 := hk.2
      show (if w.heap.size ≤ k then 1 else if own k = 0 then 0 else own k + 1) = _
      rw [if_neg (by omega), if_neg (by omega), hk1]
/-- A literal's new block, wherever it stands. -/
theorem Sp.lit {α : Type} (d : Kd α) (e : Nat) (h : Sp w0 S0 l w) (xs : List α) (inner : List Value) (n : Nat) (hn : w.heap.size = n) (hrep : Reps (d.M w 0 (fun _ => False)) d.sz xs inner) (hm : xs.length ≤ 9223372036854775807) :
    Sp w0 S0 (Sl.row d e (.slice (some ⟨n, 0, none⟩) xs.length xs.length) xs :: l) (w.alloc (.cells inner.toArray e)) := by
  subst hn
  exact h.more (Upd.alloc (Upd.refl _ _) _) (row_mono (row_alloc d w e hrep hm) (fun k h => h.elim (fun h => h.elim) id))
theorem Sp.nilrow {α : Type} (d : Kd α) (e : Nat) (h : Sp w0 S0 l w) : Sp w0 S0 (Sl.row d e (.slice none 0 0) [] :: l) w := h.more (Upd.refl _ _) (Kd.R_nil _ _ _ _ _)
/-- An assertion's own blocks: whatever turns them, and lies in them and in new ones, may stand in its place. -/
theorem Sp.opn (h : Sp w0 S0 l w) (i : Nat) (a : Ast) (hi : l[i]? = some a) : ∃ T : Nat → Prop, a.P w T ∧ ∀ (W : World) (b : Ast) (T' : Nat → Prop), (∀ k, T' k → T k) → Upd T' w W → b.P W (New w T) → Sp w0 S0 (l.set i b) W := by
  obtain ⟨u, own, h1, h2⟩ := h
  have hil := (List.getElem?_eq_some_iff.1 hi).1
  refine ⟨_, h2 i a hi, fun W b T' hT hu hb => ⟨u.trans hu (fun k hk => h1 k (by have := hT k hk; omega)), fun k => if w.heap.size ≤ k then i + 1 else own k, fun k hk => ?_, fun j c hc => ?_⟩⟩
  · dsimp only at hk
    by_cases h5 : w.heap.size ≤ k
    · exact .inr (Nat.le_trans u.size h5)
    · rw [if_neg h5] at hk; exact h1 k hk
  · rw [List.getElem?_set] at hc
    split at hc
    · rename_i hij
      subst hij
      cases hc
      refine b.mo hb (fun k hk => ?_)
      show (if w.heap.size ≤ k then i + 1 else own k) = i + 1
      by_cases h5 : w.heap.size ≤ k
      · rw [if_pos h5]
      · rw [if_neg h5]; exact hk.elim id (fun h => absurd h h5)
    · rename_i hij
      refine c.mo (c.up (c.old (h2 j c hc)) hu (fun k hk e => hij ?_)) (fun k hk => ?_)
      · have h6 := hT k e; have h7 := hk.1; omega
      · show (if w.heap.size ≤ k then i + 1 else own k) = j + 1
        rw [if_neg (by have := hk.2; omega)]; exact hk.1
end
theorem cl_ {α : Type} {d : Kd α} {w W : World} {A : Option Addr} {n : Nat} {xs : List α} [Lt w W] (h : Aside0 (d.C w A n xs)) : d.C W A n xs := Kd.C_below h.out (lu : Upd None0 w W).below0
theorem Sp.reads {α : Type} {d : Kd α} {e : Nat} {w0 w : World} {S0 : Nat → Prop} {l : List Ast} {A : Option Addr} {n c : Nat} {xs : List α} (h : Sp w0 S0 l w) (i : Nat) (hi : l[i]? = some (Sl.row d e (.slice A n c) xs) := by rfl) : d.C w A n xs := by
  have h2 := Kd.R_reads' (h.row i hi)
  rw [h2.1]
  exact h2.2.2
/-- A law of the list's walk serves at a step of a region that draws. -/
def QK (K : Act → World → Prop) : Exit → Act → World → Prop
  | .normal, a, w => K a w
  | _, _, _ => False
theorem qk_out {K : Act → World → Prop} (h : LetsOut (QK K)) : False := by obtain ⟨_, _, h⟩ := h; exact h
theorem oper_q {P : Program} {o : Oper} {a : Act} {w : World} {K : Act → World → Prop} {Q : Exit → Act → World → Prop} (hh : o.wp P a w K (QK K)) : o.wp P a w K Q := by
  unfold Oper.wp at *
  generalize (execOp a.eval o).run P w = r at *
  cases r with
  | ok n w' =>
    cases n <;> simp only [Oper.upon] at hh ⊢ <;>
      first
        | exact hh
        | exact Calls.mono hh (fun e w'' he => by cases e <;> first | exact he | exact (qk_out he).elim | exact False.elim he)
  | halt x w' => cases x <;> simp only [Oper.upon] at hh ⊢ <;> first | exact hh | exact (qk_out hh).elim | exact False.elim hh
theorem step_list {P : Program} {ops : Array Oper} {o : Oper} {a : Act} {W : World} {K : Act → World → Prop} {Q : Exit → Act → World → Prop} (h : wpList P ops (QK K) [o] a W) :
    if Region.wanted o (yielded ops a.tmps) = true then Oper.wp P o a W K Q else K (a.put o.dst undef) W := by
  unfold wpList at h
  split
  · rename_i hw
    rw [if_pos hw] at h
    exact h.elim oper_q (fun h => (qk_out h.2).elim)
  · rename_i hw
    rw [if_neg hw] at h
    exact h
theorem list_K {P : Program} {ops : Array Oper} {a : Act} {w : World} {K : Act → World → Prop} (h : K a w) : wpList P ops (QK K) [] a w := h
/-- A callee that leaves the world, in a region that is walked in the order of the text. -/
theorem qleft {P : Program} {f : FuncId} {args : Array Value} {w : World} {n : Nat} {v : Value} (h : Calls P f args (w.drewN n) fun e w' => e = .returned v ∧ w.drewN n = w') : Calls P f args (w.drewN n) fun e w'' => e = .returned v ∧ ∃ m, w'' = w.drewN m :=
  h.mono fun _ _ ⟨he, hm⟩ => ⟨he, n, hm.symm⟩
section
variable {P : Program} {ops : Array Oper} {rest : List Oper} {o : Oper} {a : Act} {Q : Exit → Act → World → Prop} {w0 w W : World} {S0 : Nat → Prop} {l l2 : List Ast}
/-- A field is written. -/
theorem sp_cell [Lt w W] (h : Sp w0 S0 l w) (i : Nat) (hgd : o.guard = none) (ty : TypeId) (x y : Operand) (ho : o.op = .store ty x y) (hd : o.dst = none) (g j : Nat) (v : Value) (hx : a.eval x = .pointer (some ⟨g, j, none⟩)) (hy : a.eval y = v)
    (t : TypeId) (old new : Array Value) (hi : l[i]? = some (blk g old t)) (hs : (P.info? ty).map (·.size) = some 1) (hlt : j < old.size) (h1 : v.oneCell' = true) (hn : old.setIfInBounds j v = new) (hl : l.set i (blk g new t) = l2)
    (hk : ∀ w', Sp w0 S0 l2 w' → wpList P ops Q rest a w') : wpList P ops Q (o :: rest) a W := by
  subst hl
  exact cellput hgd ty x y ho hd g j v hx hy t old new (h.blkW i hi) hs hlt h1 hn (fun w' hb hu => hk w' ((h.lt (W := W)).put_ i hi hu hb))
/-- A struct is written. -/
theorem sp_row [Lt w W] (h : Sp w0 S0 l w) (i : Nat) (hgd : o.guard = none) (ty : TypeId) (x y : Operand) (ho : o.op = .store ty x y) (hd : o.dst = none) (g : Nat) (new : Array Value) (hx : a.eval x = .pointer (some ⟨g, 0, none⟩)) (hy : a.eval y = .agg new)
    (t : TypeId) (old : Array Value) (hi : l[i]? = some (blk g old t)) (hs : (P.info? ty).map (·.size) = some new.size) (hold : old.size = new.size) (h1 : new.all (·.oneCell') = true) (hl : l.set i (blk g new t) = l2)
    (hk : ∀ w', Sp w0 S0 l2 w' → wpList P ops Q rest a w') : wpList P ops Q (o :: rest) a W := by
  subst hl
  exact rowput hgd ty x y ho hd g new hx hy t old (h.blkW i hi) hs hold h1 (fun w' hb hu => hk w' ((h.lt (W := W)).put_ i hi hu hb))
/-- A new block. -/
theorem sp_box [Lt w W] (h : Sp w0 S0 l w) (hgd : o.guard = none) {N : Tmp} (hd : o.dst = some N) (cs : Array Value) (t : TypeId)
    (hrun : (execOp a.eval o).run P W = .ok (.value (.pointer (some ⟨W.heap.size, 0, none⟩))) (W.alloc (.cells cs t (0, 0))))
    (hk : ∀ g w1, w.heap.size ≤ g → Sp w0 S0 (blk g cs t :: l) w1 → wpList P ops Q rest (a.put o.dst (.pointer (some ⟨g, 0, none⟩))) w1) : wpList P ops Q (o :: rest) a W :=
  boxnew hgd hd hrun (fun g hge w1 hb hu => hk g w1 (Nat.le_trans (lu : Upd None0 w W).size hge) ((h.lt (W := W)).more hu ⟨hge, hb⟩))
/-- A literal of elements. -/
theorem sp_lit {α : Type} (d : Kd α) [Lt w W] (h : Sp w0 S0 l w) (e : Nat) (hgd : o.guard = none) {N : Tmp} (hd : o.dst = some N) (xs : List α) (inner : List Value)
    (hrun : (execOp a.eval o).run P W = .ok (.value (.slice (some ⟨W.heap.size, 0, none⟩) xs.length xs.length)) (W.alloc (.cells inner.toArray e)))
    (hrep : Reps (d.M W 0 (fun _ => False)) d.sz xs inner) (hm : xs.length ≤ 9223372036854775807)
    (hk : ∀ A c w1, Sp w0 S0 (row d e (.slice A xs.length c) xs :: l) w1 → wpList P ops Q rest (a.put o.dst (.slice A xs.length c)) w1) : wpList P ops Q (o :: rest) a W :=
  row_lit d e hgd hd hrun hrep hm (fun v1 w1 hr hu => by
    obtain ⟨A, c, rfl⟩ := Kd.R_slice hr
    exact hk A c w1 ((h.lt (W := W)).more hu (row_mono hr (fun k h => h.elim (fun h => h.elim) id))))
/-- append(v, x). -/
theorem sp_app {α : Type} (d : Kd α) [Lt w W] (h : Sp w0 S0 l w) (i : Nat) (hgd : o.guard = none) (s x : Operand) (t e : TypeId) (z : Value) (bytes : Nat)
    (ho : o.op = .call { callee := .builtin .append, args := #[s, x], argTypes := #[t, t] })
    (ht : P.underlying t = some (.slice e)) (hinfo : (P.info? e).map (fun i => (i.zero, i.size, i.bytes)) = some (some z, d.sz, bytes)) (hz : z.cells.size = d.sz) (hs0 : 0 < d.sz) (hb0 : 0 < bytes)
    (v : Value) (xs : List α) (p : α) (cs : List Value) (hs : a.eval s = v) (hx : a.eval x = .slice (some ⟨W.heap.size, 0, none⟩) 1 1) (hp : d.M W 0 (fun _ => False) p cs)
    (hi : l[i]? = some (row d e v xs)) (hl : (xs.length + 1) * bytes ≤ 140737488355328) (ys : List α) (hy : xs ++ [p] = ys) (l2 : Option Addr → Nat → List Ast) (hl2 : ∀ A c, l.set i (row d e (.slice A ys.length c) ys) = l2 A c)
    (hk : ∀ A c w1, Sp w0 S0 (l2 A c) w1 → wpList P ops Q rest (a.put o.dst (.slice A ys.length c)) w1) :
    wpList P ops Q (o :: rest) a (W.alloc (.cells cs.toArray e)) := by
  obtain ⟨T, hT, hw⟩ := (h.lt (W := W)).opn i _ hi
  refine row_append d hgd s x t e z bytes ho ht hinfo hz hs0 hb0 v xs p cs hs hx hp hT hl ys hy (fun v1 w1 hr hu => ?_)
  obtain ⟨A, c, rfl⟩ := Kd.R_slice hr
  refine hk A c w1 ?_
  rw [← hl2]
  exact hw w1 _ _ (fun k hk => row_at hT hk) hu hr
/-- append(v, l...). -/
theorem sp_apps {α : Type} (d : Kd α) [Lt w W] (h : Sp w0 S0 l w) (i : Nat) (hgd : o.guard = none) (s x : Operand) (t e : TypeId) (z : Value) (bytes : Nat)
    (ho : o.op = .call { callee := .builtin .append, args := #[s, x], argTypes := #[t, t] })
    (ht : P.underlying t = some (.slice e)) (hinfo : (P.info? e).map (fun i => (i.zero, i.size, i.bytes)) = some (some z, d.sz, bytes)) (hz : z.cells.size = d.sz) (hs0 : 0 < d.sz) (hb0 : 0 < bytes)
    (v : Value) (xs ys : List α) (A : Option Addr) (m c : Nat) (hs : a.eval s = v) (hx : a.eval x = .slice A m c)
    (hi : l[i]? = some (row d e v xs)) (HR : d.C W A m ys) (hKM : ∀ x cs, d.K W x cs → d.M W 0 (fun _ => False) x cs) (hl : (xs.length + m) * bytes ≤ 140737488355328) (zs : List α) (hy : xs ++ ys = zs) (l2 : Option Addr → Nat → List Ast) (hl2 : ∀ A c, l.set i (row d e (.slice A zs.length c) zs) = l2 A c)
    (hk : ∀ A c w1, Sp w0 S0 (l2 A c) w1 → wpList P ops Q rest (a.put o.dst (.slice A zs.length c)) w1) :
    wpList P ops Q (o :: rest) a W := by
  obtain ⟨T, hT, hw⟩ := (h.lt (W := W)).opn i _ hi
  refine row_append_rows d hgd s x t e z bytes ho ht hinfo hz hs0 hb0 v xs ys A m c hs hx hT HR hKM hl zs hy (fun v1 w1 hr hu => ?_)
  obtain ⟨A, c, rfl⟩ := Kd.R_slice hr
  refine hk A c w1 ?_
  rw [← hl2]
  exact hw w1 _ _ (fun k hk => row_at hT hk) hu hr
end
end Go.Proofs.Ytpiejdncoeldeaa.Sl
