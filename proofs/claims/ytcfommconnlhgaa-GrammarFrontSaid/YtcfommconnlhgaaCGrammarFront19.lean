/- What the row of GrammarFront stands on, made small by a program of this session (pack.py). -/
import Derived.Deep.RegionHeld3
import Derived.Test.YtcfommconnlhgaaCGrammarFront2
import Derived.Test.YtcfommconnlhgaaCGrammarFront3
import Derived.Test.YtcfommconnlhgaaCGrammarFront7
import Derived.Test.YtcfommconnlhgaaCGrammarFront9
import Derived.Test.YtcfommconnlhgaaCGrammarFront11
import Derived.Test.YtcfommconnlhgaaCGrammarFront18
namespace Go.Proofs.Ytcfommconnlhgaa.Vp
open RowKit PC YtcfommconnlhgaaW.PrintWords YtcfommconnlhgaaW.PrintLast YtcfommconnlhgaaW.PrintMore
open Bs
open BNum (okN okP)
set_option linter.unusedVariables false
set_option linter.unusedSimpArgs false
inductive Cs
 | any
 | num (tag n at_ first : Int)
 | oid (left : Int) (within : Bool)
 | bit (left : Int) (begun : Bool) (unused : Int)
 | whn (u : Bool) (date : List Int) (left : Int)
 | txt (tag left more low high : Int)
def bitBad (u b : Int) : Bool := !(Go.bits .and .u8 b ((shl .u8 1 u - 1) % 256) == 0)
def pushC : Cs → Int → Option Cs
 | .any, _ => some .any
 | .num t n a f, b => if okP t a f b = true then some (.num t n (a + 1) (if a = 0 then b else f)) else none
 | .oid l w, b => if (w = false ∧ b = 128) ∨ (l - 1 = 0 ∧ 128 ≤ b) then none else some (.oid (l - 1) (decide (128 ≤ b)))
 | .bit l bg u, b => if bg = true then (if l - 1 = 0 ∧ bitBad u b = true then none else some (.bit (l - 1) bg u))
  else (if 7 < b ∨ (0 < b ∧ l - 1 = 0) then none else some (.bit (l - 1) true b))
 | .whn u D l, b => (Dt.stp u (D, l) b).map fun s => .whn u s.1 s.2
 | .txt t l m lo hi, b => (Tx.stp t (l, m, lo, hi) b).map fun s => .txt t s.1 s.2.1 s.2.2.1 s.2.2.2
def startC (tag n : Int) : Option Cs :=
 if tag = 0 ∨ tag = 16 ∨ tag = 17 then none
 else if tag = 1 ∨ tag = 2 ∨ tag = 5 ∨ tag = 10 then (if okN tag n = true then some (.num tag n 0 0) else none)
 else if tag = 6 then (if n < 1 then none else some (.oid n false))
 else if tag = 3 then (if n < 1 then none else some (.bit n false 0))
 else if tag = 23 ∨ tag = 24 then (if (tag = 23 ∧ n = 13) ∨ (tag = 24 ∧ n = 15) then some (.whn (decide (tag = 23)) [] n) else none)
 else if n < 0 then none else some (.txt tag n 0 0 0)
def lookC (s : Cs) (e : Ev) : Option Cs :=
 if e.f0 = 3 then pushC s e.f3
 else if e.f0 = 1 ∧ e.f2.f0 = 0 then (if e.f2.f1 = 16 ∨ e.f2.f1 = 17 then some s else none)
 else if e.f0 = 2 ∧ e.f2.f0 = 0 then startC e.f2.f1 e.f2.f3
 else if e.f0 = 2 then some .any
 else some s
def Good : Cs → Int → Prop
 | .any, _ => True
 | .num t n a f, r => 0 ≤ a ∧ 0 ≤ r ∧ a + r ≤ 2305843009213693951
 | .oid l w, r => l = r ∧ 0 ≤ r ∧ r ≤ 2305843009213693951
 | .bit l bg u, r => l = r ∧ 0 ≤ r ∧ r ≤ 2305843009213693951 ∧ 0 ≤ u ∧ u ≤ 7
 | .whn u D l, r => l = r ∧ 0 ≤ r ∧ Dt.Digs D ∧ (D.length : Int) + r ≤ 15 ∧ (u = true → D = [] → r ≤ 13)
 | .txt t l m lo hi, r => l = r ∧ 0 ≤ r ∧ r ≤ 2305843009213693951 ∧ 0 ≤ m ∧ m ≤ 3
theorem good_start {tag n : Int} (h0 : 0 ≤ n) (h1 : n ≤ 2305843009213693951) {s : Cs} (h : startC tag n = some s) : Good s n := by
 unfold startC at h
 split at h
 ·
  cases h
 split at h
 ·
  split at h
  ·
   cases h; exact ⟨Int.le_refl _, h0, zz4⟩
  ·
   cases h
 split at h
 ·
  split at h
  ·
   cases h
  ·
   cases h; exact ⟨rfl, h0, h1⟩
 split at h
 ·
  split at h
  ·
   cases h
  ·
   cases h; exact ⟨rfl, h0, h1, zz8, zz8⟩
 split at h
 ·
  split at h
  ·
   rename_i h2
   cases h
   exact ⟨rfl, h0, (fun x hx => by cases hx), by rcases h2 with h2 | h2 <;> simp <;> omega, fun h3 _ => by have := of_decide_eq_true h3; omega⟩
  ·
   cases h
 split at h
 ·
  cases h
 ·
  cases h; exact ⟨rfl, h0, h1, zz8, zz8⟩
theorem good_push {s s' : Cs} {r b : Int} (hg : Good s r) (hr : 0 < r) (hb : 0 ≤ b ∧ b < 256) (h : pushC s b = some s') : Good s' (r - 1) := by
 cases s with
 | any => cases h; trivial
 | num t n a f =>
   simp only [pushC] at h
   split at h
   ·
    cases h; obtain ⟨g1, g2, g3⟩ := hg; exact ⟨zz4, zz4, zz4⟩
   ·
    cases h
 | oid l w =>
   simp only [pushC] at h
   split at h
   ·
    cases h
   ·
    cases h; obtain ⟨g1, g2, g3⟩ := hg; exact ⟨zz4, zz4, zz4⟩
 | bit l bg u =>
   obtain ⟨g1, g2, g3, g4, g5⟩ := hg
   simp only [pushC] at h
   split at h
   ·
    split at h
    ·
     cases h
    ·
     cases h; exact ⟨zz4, zz4, zz4, g4, g5⟩
   ·
    split at h
    ·
     cases h
    ·
     cases h; exact ⟨zz4, zz4, zz4, hb.1, zz4⟩
 | whn u D l =>
   obtain ⟨g1, g2, g3, g4, g5⟩ := hg
   simp only [pushC] at h
   obtain ⟨p, hp, rfl⟩ := Option.map_eq_some_iff.1 h
   unfold Dt.stp at hp
   simp only at hp
   obtain ⟨X, hX⟩ : ∃ X, (if (u && D.isEmpty) = true then Dt.cen b else D) = X := ⟨_, rfl⟩
   rw [hX] at hp
   split at hp
   ·
    split at hp
    ·
     cases hp; exact ⟨by show l - 1 = r - 1; omega, zz4, g3, by show (D.length : Int) + (r - 1) ≤ 15; omega, fun h1 h2 => by have := g5 h1 h2; omega⟩
    ·
     cases hp
   split at hp
   ·
    cases hp
   split at hp
   ·
    rename_i h1 h2 h3
    cases hp
    have hd : Dt.Dig b := by unfold Dt.Dig; omega
    have hds : ∀ E : List Int, Dt.Digs E → Dt.Digs (E ++ [b]) := fun E hE => hE.append (fun x hx => by rw [List.mem_singleton.1 hx]; exact hd)
    by_cases hc : (u && D.isEmpty) = true
    ·
     rw [if_pos hc] at hX
     have hu : u = true := by cases u <;> simp_all
     have hD : D = [] := by cases D <;> simp_all
     subst hu hD
     have h5 := g5 rfl rfl
     subst hX
     refine ⟨by show l - 1 = r - 1; omega, zz4, hds _ (Dt.cen_digs b), ?_, fun _ h => ?_⟩
     ·
      have := Dt.cen_len b
      simp only [List.length_append, List.length_singleton]
      omega
     ·
      exact absurd h zz19
    ·
     rw [if_neg hc] at hX
     subst hX
     refine ⟨by show l - 1 = r - 1; omega, zz4, hds _ g3, ?_, fun _ h => absurd h zz19⟩
     simp only [List.length_append, List.length_singleton]
     omega
   ·
    cases hp
 | txt t l m lo hi =>
   obtain ⟨g1, g2, g3, g4, g5⟩ := hg
   simp only [pushC] at h
   obtain ⟨p, hp, rfl⟩ := Option.map_eq_some_iff.1 h
   have := BTxt.stp_ok hp ⟨g4, g5⟩
   exact ⟨by rw [this.1]; show l - 1 = r - 1; omega, zz4, zz4, this.2.1, this.2.2⟩
end Go.Proofs.Ytcfommconnlhgaa.Vp
namespace Go.Proofs.Ytcfommconnlhgaa.PC
open RowKit YtcfommconnlhgaaW.PrintWords YtcfommconnlhgaaW.PrintLast YtcfommconnlhgaaW.PrintMore
set_option linter.unusedVariables false
structure Inv (most : Nat) (s : St) (i : Nat) : Prop where
 over : s.over = 0
 at_ : s.at_ = (i : Int)
 len : s.left.length ≤ most
 leaf0 : 0 ≤ s.leaf
 came : s.leaf ≠ 0 → s.came = []
 bytes : Idm.Bytes s.came
 left0 : ∀ x ∈ s.left, 0 ≤ x
theorem inv0 (most : Nat) : Inv most init0 0 := ⟨rfl, rfl, Nat.zero_le _, Int.le_refl _, fun _ => rfl, fun x hx => by simp [init0] at hx, fun x hx => by simp [init0] at hx⟩
theorem tk_len (l : List Int) : (Mxm.tk l).1.length = l.length := by
 cases l with
 | nil => rfl
 | cons x r => simp only [Mxm.tk]; split <;> simp
theorem tk_pos (l : List Int) (h : ∀ x ∈ l, 0 ≤ x) : ∀ x ∈ (Mxm.tk l).1, 0 ≤ x := by
 cases l with
 | nil => exact h
 | cons x r =>
   simp only [Mxm.tk]
   split
   ·
    exact h
   ·
    intro y hy
    have := h x zz19
    rcases List.mem_cons.1 hy with rfl | hy
    ·
     omega
    ·
     exact h y (by simp [hy])
theorem en_ok (most : Nat) (l : List Int) (n : Int) (hl : l.length ≤ most) (h0 : 0 ≤ n) (hp : ∀ x ∈ l, 0 ≤ x) (h : (Mxm.en most l n).2 = 0) : (Mxm.en most l n).1.length = l.length + 1 ∧ l.length + 1 ≤ most ∧ ∀ x ∈ (Mxm.en most l n).1, 0 ≤ x := by
 cases l with
 | nil =>
   simp only [Mxm.en] at h ⊢
   split at h
   ·
    simp at h
   ·
    rename_i h1
    rw [if_neg h1]
    exact ⟨rfl, zz29, fun x hx => by simp at hx; omega⟩
 | cons x r =>
   simp only [Mxm.en] at h ⊢
   split at h
   ·
    simp at h
   ·
    rename_i h1
    rw [if_neg h1]
    split at h
    ·
     simp at h
    ·
     rename_i h2
     rw [if_neg h2]
     refine ⟨zz19, by simp at hl ⊢; omega, fun y hy => ?_⟩
     simp only [List.mem_cons] at hy
     rcases hy with rfl | rfl | hy
     ·
      exact h0
     ·
      omega
     ·
      exact hp y (by simp [hy])
theorem exits_ev (at_ : Int) : ∀ (l : List Int), (∀ y ∈ (exits at_ l).2, y = ev 5 at_ h0 0) ∧ (exits at_ l).2.length + (exits at_ l).1.length = l.length
 | [] => ⟨fun y hy => by simp [exits] at hy, rfl⟩
 | x :: r => by
   have ih := exits_ev at_ r
   simp only [exits]
   split
   ·
    refine ⟨fun y hy => ?_, by simp only [List.length_cons]; omega⟩
    rcases List.mem_cons.1 hy with rfl | hy
    ·
     rfl
    ·
     exact ih.1 y hy
   ·
    exact ⟨fun y hy => by simp at hy, zz19⟩
theorem exits_pos (at_ : Int) : ∀ (l : List Int), (∀ x ∈ l, 0 ≤ x) → ∀ x ∈ (exits at_ l).1, 0 ≤ x
 | [], h => h
 | x :: r, h => by
   simp only [exits]
   split
   ·
    exact exits_pos at_ r (fun y hy => h y (by simp [hy]))
   ·
    exact h
theorem hd_ok {l : List Int} (hb : Idm.Bytes l) (h : er l = 0) : Hdm.Whole (hd l).f0 (hd l).f1 (hd l).f3 ∧ ∃ p : Nat, 2 ≤ p ∧ p ≤ l.length ∧ Hdm.hdenc (hd l).f0 (hd l).f1 (hd l).f2 (hd l).f3 = l.take p := by
 have hv := Hdm.hg_back l _ _ _ _ _ hb (show Hdm.hg l = ((Hdm.hg l).1, (Hdm.hg l).2.1, (Hdm.hg l).2.2.1, (Hdm.hg l).2.2.2.1, (Hdm.hg l).2.2.2.2.1, 0) from Prod.ext rfl (Prod.ext rfl (Prod.ext rfl (Prod.ext rfl (Prod.ext rfl h)))))
 exact ⟨hv.1, _, hv.2.1, hv.2.2.1, hv.2.2.2⟩
theorem step_cases (most : Nat) (s s1 : St) (b : Int) (x : List Ev) (h : stepM most s b = (s1, x, 0)) :
 (0 < s.leaf ∧ s1 = { s with left := (Mxm.tk s.left).1, leaf := s.leaf - 1 } ∧ x = ev 3 s.at_ h0 b :: ends s (s.leaf - 1)) ∨
 (¬ 0 < s.leaf ∧ (Mxm.tk s.left).2 = 0 ∧ ((er (s.came ++ [b]) = 2 ∧ s1 = { s with left := (Mxm.tk s.left).1, came := s.came ++ [b] } ∧ x = []) ∨
  (er (s.came ++ [b]) = 0 ∧ ¬ (0 < ((Mxm.tk s.left).1.length : Int) ∧ (Mxm.tk s.left).1.headD 0 < (hd (s.came ++ [b])).f3) ∧ ((hd (s.came ++ [b])).f2 = true ∧ (Mxm.en most (Mxm.tk s.left).1 (hd (s.came ++ [b])).f3).2 = 0 ∧
   s1 = { s with left := (Mxm.en most (Mxm.tk s.left).1 (hd (s.came ++ [b])).f3).1, came := [], begun := true } ∧ x = [ev 1 s.at_ (hd (s.came ++ [b])) 0] ∨
   (hd (s.came ++ [b])).f2 = false ∧ s1 = { s with left := (Mxm.tk s.left).1, came := [], begun := true, leaf := (hd (s.came ++ [b])).f3 } ∧ x = ev 2 s.at_ (hd (s.came ++ [b])) 0 :: ends s (hd (s.came ++ [b])).f3)))) := by
 unfold stepM at h
 by_cases h1 : 0 < s.leaf
 ·
  rw [if_pos h1] at h
  simp only [Prod.mk.injEq, and_true] at h
  exact .inl ⟨h1, h.1.symm, h.2.symm⟩
 rw [if_neg h1] at h
 by_cases h2 : (Mxm.tk s.left).2 ≠ 0
 ·
  rw [if_pos h2] at h
  simp only [Prod.mk.injEq] at h
  exact absurd h.2.2 h2
 rw [if_neg h2] at h
 refine .inr ⟨h1, by simpa using h2, ?_⟩
 by_cases h3 : er (s.came ++ [b]) = 2
 ·
  rw [if_pos h3] at h
  simp only [Prod.mk.injEq, and_true] at h
  exact .inl ⟨h3, h.1.symm, h.2.symm⟩
 rw [if_neg h3] at h
 by_cases h4 : er (s.came ++ [b]) ≠ 0
 ·
  rw [if_pos h4] at h
  simp only [Prod.mk.injEq] at h
  exact absurd h.2.2 h4
 rw [if_neg h4] at h
 refine .inr ⟨by simpa using h4, ?_⟩
 unfold beginM at h
 split at h
 ·
  simp at h
 rename_i h5
 refine ⟨h5, ?_⟩
 split at h
 ·
  rename_i h6
  split at h
  ·
   rename_i h7
   simp only [Prod.mk.injEq] at h
   exact absurd h.2.2 h7
  ·
   rename_i h7
   simp only [Prod.mk.injEq, and_true] at h
   exact .inl ⟨h6, by simpa [takeM] using h7, h.1.symm, h.2.symm⟩
 ·
  rename_i h6
  simp only [Prod.mk.injEq, and_true] at h
  exact .inr ⟨by simpa using h6, h.1.symm, h.2.symm⟩
theorem push_ok (most : Nat) (s s' : St) (b : Int) (x : List Ev) (h0 : s.over = 0) (h : pushM most s b = (s', x, 0)) : done s = false ∧ ∃ s1 x1, stepM most s b = (s1, x1, 0) ∧ s' = (closeM s1).1 ∧ x = x1 ++ (closeM s1).2 := by
 unfold pushM at h
 rw [if_neg (by simp [h0])] at h
 by_cases hd : done s = true
 ·
  rw [if_pos hd] at h; simp at h
 rw [if_neg hd] at h
 refine ⟨by simpa using hd, ?_⟩
 obtain ⟨⟨s1, x1, e1⟩, hs⟩ : ∃ q, stepM most s b = q := ⟨_, rfl⟩
 rw [hs] at h
 by_cases he : e1 = 0
 ·
  subst he
  simp only [ne_eq, not_true_eq_false, if_false, Prod.mk.injEq, and_true] at h
  exact ⟨s1, x1, hs, h.1.symm, h.2.symm⟩
 ·
  rw [if_pos he] at h
  simp only [Prod.mk.injEq] at h
  exact absurd h.2.2 he
theorem ends_ev (s : St) (n : Int) : ∀ y ∈ ends s n, y = ev 4 s.at_ h0 0 := by
 unfold ends
 split
 ·
  intro y hy; simpa using hy
 ·
  intro y hy; simp at hy
theorem push_inv (most : Nat) (s s' : St) (b : Int) (x : List Ev) (i : Nat) (hI : Inv most s i) (hb : 0 ≤ b ∧ b < 256) (h : pushM most s b = (s', x, 0)) : Inv most s' (i + 1) ∧ (∀ y ∈ x, y.f1 = (i : Int)) ∧ x.length ≤ most + 3 := by
 obtain ⟨hd, s1, x1, hs, rfl, rfl⟩ := push_ok most s s' b x hI.over h
 have hby := bytes_snoc hI.bytes hb
 have key : s1.over = 0 ∧ s1.at_ = (i : Int) ∧ s1.left.length ≤ most ∧ 0 ≤ s1.leaf ∧ (s1.leaf ≠ 0 → s1.came = []) ∧ Idm.Bytes s1.came ∧ (∀ x ∈ s1.left, 0 ≤ x) ∧ (∀ y ∈ x1, y.f1 = (i : Int)) ∧ x1.length ≤ 2 := by
  have tl := tk_len s.left
  have tp := tk_pos s.left hI.left0
  have eat := hI.at_
  have el : ∀ n, (ends s n).length ≤ 1 := ends_len s
  have ea : ∀ n, ∀ y ∈ ends s n, y.f1 = (i : Int) := fun n y hy => by rw [ends_ev s n y hy]; exact eat
  rcases step_cases most s s1 b x1 hs with ⟨g1, rfl, rfl⟩ | ⟨g1, g2, ⟨g3, rfl, rfl⟩ | ⟨g3, g4, ⟨g5, g6, rfl, rfl⟩ | ⟨g5, rfl, rfl⟩⟩⟩
  ·
   refine ⟨hI.over, eat, by simp only; rw [tl]; exact hI.len, by simp only; omega, fun _ => hI.came zz4, hI.bytes, tp, fun y hy => ?_, by have := el (s.leaf - 1); simp only [List.length_cons]; omega⟩
   rcases List.mem_cons.1 hy with rfl | hy
   ·
    exact eat
   ·
    exact ea _ y hy
  ·
   exact ⟨hI.over, eat, by simp only; rw [tl]; exact hI.len, hI.leaf0, fun h => absurd h (by have := hI.leaf0; simp only; omega), hby, tp, fun y hy => by simp at hy, zz19⟩
  ·
   have ho := hd_ok hby g3
   have e1 := en_ok most (Mxm.tk s.left).1 (_root_.Go.Proofs.Ytcfommconnlhgaa.PC.hd (s.came ++ [b])).f3 (by rw [tl]; exact hI.len) ho.1.2.1 tp g6
   exact ⟨hI.over, eat, by simp only; omega, hI.leaf0, fun _ => rfl, fun x hx => by simp at hx, e1.2.2, fun y hy => by simp at hy; rw [hy]; exact eat, zz19⟩
  ·
   have ho := hd_ok hby g3
   refine ⟨hI.over, eat, by simp only; rw [tl]; exact hI.len, ho.1.2.1, fun _ => rfl, fun x hx => by simp at hx, tp, fun y hy => ?_, Nat.succ_le_succ (el _)⟩
   rcases List.mem_cons.1 hy with rfl | hy
   ·
    exact eat
   ·
    exact ea _ y hy
 obtain ⟨k1, k2, k3, k4, k5, k6, k7, k8, k9⟩ := key
 have xe := exits_ev s1.at_ s1.left
 have xp := exits_pos s1.at_ s1.left k7
 unfold closeM
 split
 ·
  rename_i hc
  refine ⟨⟨k1, by simp only [k2]; omega, by simp only; omega, k4, k5, k6, xp⟩, fun y hy => ?_, by rw [List.length_append]; simp only; omega⟩
  rcases List.mem_append.1 hy with hy | hy
  ·
   exact k8 y hy
  ·
   rw [xe.1 y hy]; exact k2
 ·
  exact ⟨⟨k1, by simp only [k2]; omega, k3, k4, k5, k6, k7⟩, fun y hy => k8 y (by simpa using hy), by rw [List.append_nil]; omega⟩
theorem run_split (most : Nat) : ∀ (l m : List Int) (s : St) (i : Nat) (acc : List Ev), Idm.Bytes l → Inv most s i →
 (∃ s' xs, Inv most s' (i + l.length) ∧ (∀ y ∈ xs, (i : Int) ≤ y.f1 ∧ y.f1 < ((i + l.length : Nat) : Int)) ∧ xs.length ≤ l.length * (most + 3) ∧ runM most s l i acc = (acc ++ xs, if done s' = true then 0 else 2, ((i + l.length : Nat) : Int)) ∧ runM most s (l ++ m) i acc = runM most s' m ((i + l.length : Nat) : Int) (acc ++ xs)) ∨
 (∃ xs e j, e ≠ 0 ∧ i ≤ j ∧ j < i + l.length ∧ (∀ y ∈ xs, (i : Int) ≤ y.f1 ∧ y.f1 < (j : Int)) ∧ xs.length ≤ l.length * (most + 3) ∧ runM most s l i acc = (acc ++ xs, e, ((j : Nat) : Int)) ∧ runM most s (l ++ m) i acc = (acc ++ xs, e, ((j : Nat) : Int)))
 | [], m, s, i, acc, hb, hI => .inl ⟨s, [], hI, fun y hy => by simp at hy, zz19, by simp [runM], zz19⟩
 | b :: r, m, s, i, acc, hb, hI => by
   obtain ⟨⟨s', x, e⟩, hp⟩ : ∃ q, pushM most s b = q := ⟨_, rfl⟩
   rw [List.cons_append, runM_step most s s' b x e _ _ _ hp, runM_step most s s' b x e _ _ _ hp]
   by_cases he : e = 0
   ·
    subst he
    have hq := push_inv most s s' b x i hI (hb b zz19) hp
    simp only [ne_eq, not_true_eq_false, if_false]
    have ih := run_split most r m s' (i + 1) (acc ++ x) (fun y hy => hb y (by simp [hy])) hq.1
    have ei : ((i : Int) + 1) = ((i + 1 : Nat) : Int) := by omega
    rw [ei]
    rcases ih with ⟨s2, xs, a1, a2, a3, a4, a5⟩ | ⟨xs, e, j, a1, a2, a3, a4, a5, a6, a7⟩
    ·
     refine .inl ⟨s2, x ++ xs, ?_, fun y hy => ?_, ?_, ?_, ?_⟩
     ·
      rw [List.length_cons, show i + (r.length + 1) = i + 1 + r.length by omega]; exact a1
     ·
      rcases List.mem_append.1 hy with hy | hy
      ·
       have := hq.2.1 y hy
       simp only [List.length_cons]; omega
      ·
       have := a2 y hy
       simp only [List.length_cons]; omega
     ·
      rw [List.length_append, List.length_cons, Nat.add_mul]; have := hq.2.2; omega
     ·
      rw [a4, List.append_assoc, List.length_cons, show i + (r.length + 1) = i + 1 + r.length by omega]
     ·
      rw [a5, List.append_assoc, List.length_cons, show i + (r.length + 1) = i + 1 + r.length by omega]
    ·
     refine .inr ⟨x ++ xs, e, j, a1, zz4, by simp only [List.length_cons]; omega, fun y hy => ?_, ?_, ?_, ?_⟩
     ·
      rcases List.mem_append.1 hy with hy | hy
      ·
       have := hq.2.1 y hy
       omega
      ·
       have := a4 y hy
       omega
     ·
      rw [List.length_append, List.length_cons, Nat.add_mul]; have := hq.2.2; omega
     ·
      rw [a6, List.append_assoc]
     ·
      rw [a7, List.append_assoc]
   ·
    rw [if_pos he, if_pos he]
    exact .inr ⟨[], e, i, he, Nat.le_refl _, zz19, fun y hy => by simp at hy, zz19, zz19, zz19⟩
theorem rd_drop (l : List Ev) (j : Nat) (h : j < l.length) : rd_T34 l (j : Int) = l[j] := by
 unfold rd_T34
 rw [Int.toNat_natCast, List.getD_eq_getElem?_getD, List.getElem?_eq_getElem h]
 rfl
end Go.Proofs.Ytcfommconnlhgaa.PC
namespace Go.Proofs.Ytcfommconnlhgaa.Vp
open RowKit PC YtcfommconnlhgaaW.PrintWords YtcfommconnlhgaaW.PrintLast YtcfommconnlhgaaW.PrintMore
open Bs
set_option linter.unusedVariables false
set_option linter.unusedSimpArgs false
def nextR (r : Int) (e : Ev) : Int := if e.f0 = 3 then r - 1 else if e.f0 = 2 then e.f2.f3 else 0
def okR (r : Int) (e : Ev) : Prop :=
 (0 ≤ e.f3 ∧ e.f3 < 256) ∧ (e.f0 = 3 → 0 < r) ∧ (e.f0 ≠ 3 → r = 0) ∧ (e.f0 = 2 → 0 ≤ e.f2.f3 ∧ e.f2.f3 ≤ 2305843009213693951)
def WfL : Int → List Ev → Prop
 | _, [] => True
 | r, e :: l => okR r e ∧ WfL (nextR r e) l
def endR : Int → List Ev → Int
 | r, [] => r
 | r, e :: l => endR (nextR r e) l
theorem wf_append : ∀ (a b : List Ev) (r : Int), WfL r (a ++ b) ↔ WfL r a ∧ WfL (endR r a) b
 | [], b, r => ⟨fun h => ⟨trivial, h⟩, fun h => h.2⟩
 | e :: a, b, r => by
   show okR r e ∧ WfL (nextR r e) (a ++ b) ↔ (okR r e ∧ WfL (nextR r e) a) ∧ WfL (endR (nextR r e) a) b
   rw [wf_append a b]
   exact ⟨fun h => ⟨⟨h.1, h.2.1⟩, h.2.2⟩, fun h => ⟨h.1.1, h.1.2, h.2⟩⟩
theorem end_append : ∀ (a b : List Ev) (r : Int), endR r (a ++ b) = endR (endR r a) b
 | [], b, r => rfl
 | e :: a, b, r => end_append a b (nextR r e)
theorem ok_ev {k at_ : Int} {h : Hd} (h3 : k ≠ 3) (h2 : k = 2 → 0 ≤ h.f3 ∧ h.f3 ≤ 2305843009213693951) : okR 0 (ev k at_ h 0) := ⟨⟨Int.le_refl _, by show (0 : Int) < 256; decide⟩, fun h => absurd h h3, fun _ => rfl, h2⟩
theorem wf_exits (at_ : Int) : ∀ l : List Int, WfL 0 (exits at_ l).2 ∧ endR 0 (exits at_ l).2 = 0
 | [] => ⟨trivial, rfl⟩
 | x :: r => by
   unfold exits
   split
   ·
    have ih := wf_exits at_ r
    exact ⟨⟨ok_ev zz8 (fun h => absurd h zz8), ih.1⟩, ih.2⟩
   ·
    exact ⟨trivial, rfl⟩
theorem wf_ends (s : St) (n : Int) : WfL n (ends s n) ∧ endR n (ends s n) = n := by
 unfold ends
 split
 ·
  rename_i h
  subst h
  exact ⟨⟨ok_ev zz8 (fun h => absurd h zz8), trivial⟩, rfl⟩
 ·
  exact ⟨trivial, rfl⟩
theorem wf_push (most : Nat) (s s' : St) (b : Int) (x : List Ev) (i : Nat) (hI : Inv most s i) (hb : 0 ≤ b ∧ b < 256) (h : pushM most s b = (s', x, 0)) : WfL s.leaf x ∧ endR s.leaf x = s'.leaf := by
 obtain ⟨hd, s1, x1, hs, rfl, rfl⟩ := push_ok most s s' b x hI.over h
 have hby := bytes_snoc hI.bytes hb
 have key : WfL s.leaf x1 ∧ endR s.leaf x1 = s1.leaf := by
  rcases step_cases most s s1 b x1 hs with ⟨g1, rfl, rfl⟩ | ⟨g1, g2, ⟨g3, rfl, rfl⟩ | ⟨g3, g4, ⟨g5, g6, rfl, rfl⟩ | ⟨g5, rfl, rfl⟩⟩⟩
  ·
   have he := wf_ends s (s.leaf - 1)
   exact ⟨⟨⟨hb, (fun _ => g1), (fun h => absurd rfl h), (fun h => absurd (show (3 : Int) = 2 from h) zz8)⟩, he.1⟩, he.2⟩
  ·
   exact ⟨trivial, rfl⟩
  ·
   have h0 : s.leaf = 0 := by have := hI.leaf0; omega
   rw [h0]
   exact ⟨⟨ok_ev zz8 (fun h => absurd h zz8), trivial⟩, rfl⟩
  ·
   have h0 : s.leaf = 0 := by have := hI.leaf0; omega
   rw [h0]
   have ho := hd_ok hby g3
   have he := wf_ends s (_root_.Go.Proofs.Ytcfommconnlhgaa.PC.hd (s.came ++ [b])).f3
   exact ⟨⟨ok_ev zz8 (fun _ => ⟨ho.1.2.1, ho.1.2.2⟩), he.1⟩, he.2⟩
 unfold closeM
 split
 ·
  rename_i hc
  have hx := wf_exits s1.at_ s1.left
  rw [wf_append, end_append, key.2, hc.1]
  exact ⟨⟨key.1, hx.1⟩, hx.2⟩
 ·
  rw [List.append_nil]
  exact key
theorem run_wf (most : Nat) : ∀ (l : List Int) (s : St) (i : Nat) (acc : List Ev), Idm.Bytes l → Inv most s i → ∃ xs, (runM most s l i acc).1 = acc ++ xs ∧ WfL s.leaf xs
 | [], s, i, acc, hb, hI => ⟨[], by simp [runM], trivial⟩
 | b :: r, s, i, acc, hb, hI => by
   obtain ⟨⟨s', x, e⟩, hp⟩ : ∃ q, pushM most s b = q := ⟨_, rfl⟩
   rw [runM_step most s s' b x e _ _ _ hp]
   by_cases he : e = 0
   ·
    subst he
    have hq := push_inv most s s' b x i hI (hb b zz19) hp
    have hw := wf_push most s s' b x i hI (hb b zz19) hp
    simp only [ne_eq, not_true_eq_false, if_false]
    obtain ⟨xs, h1, h2⟩ := run_wf most r s' (i + 1) (acc ++ x) (fun y hy => hb y (by simp [hy])) hq.1
    have ei : ((i : Int) + 1) = ((i + 1 : Nat) : Int) := by omega
    rw [ei, h1]
    exact ⟨x ++ xs, by rw [List.append_assoc], (wf_append x xs _).2 ⟨hw.1, by rw [hw.2]; exact h2⟩⟩
   ·
    rw [if_pos he]
    exact ⟨[], zz19, trivial⟩
def badE : Cs → List Ev → Option Ev
 | _, [] => none
 | s, e :: l => match lookC s e with
   | none => some e
   | some s' => badE s' l
theorem good_look {s s' : Cs} {r : Int} {e : Ev} (hg : Good s r) (ho : okR r e) (h : lookC s e = some s') : Good s' (nextR r e) := by
 obtain ⟨o1, o2, o3, o4⟩ := ho
 unfold lookC at h
 unfold nextR
 by_cases h3 : e.f0 = 3
 ·
  rw [if_pos h3] at h ⊢
  exact good_push hg (o2 h3) o1 h
 rw [if_neg h3] at h ⊢
 by_cases h2 : e.f0 = 2
 ·
  rw [if_pos h2]
  rw [if_neg (fun h => by omega)] at h
  by_cases hc : e.f2.f0 = 0
  ·
   rw [if_pos ⟨h2, hc⟩] at h
   exact good_start (o4 h2).1 (o4 h2).2 h
  ·
   rw [if_neg (fun h => hc h.2), if_pos h2] at h
   cases h; trivial
 rw [if_neg h2]
 have h0 := o3 h3
 rw [h0] at hg
 split at h
 ·
  split at h
  ·
   cases h; exact hg
  ·
   cases h
 ·
  simp only [h2, false_and, if_false] at h
  cases h; exact hg
end Go.Proofs.Ytcfommconnlhgaa.Vp
namespace Go.Proofs.Ytcfommconnlhgaa.Vp
open RowKit PC YtcfommconnlhgaaW.PrintWords YtcfommconnlhgaaW.PrintLast YtcfommconnlhgaaW.PrintMore
open Bs
set_option linter.unusedVariables false
set_option linter.unusedSimpArgs false
def okD (d : Nat) (z : Bool) (e : Ev) : Prop := (1 ≤ e.f0 ∧ e.f0 ≤ 5) ∧ ((e.f0 = 1 ∨ e.f0 = 2) → d = 0 → z = false) ∧ (e.f0 = 5 → 0 < d) ∧ (e.f0 = 1 → e.f2.f2 = true) ∧ (e.f0 = 2 → e.f2.f2 = false)
def nextD (d : Nat) (e : Ev) : Nat := if e.f0 = 1 then d + 1 else if e.f0 = 5 then d - 1 else d
def nextZ (z : Bool) (e : Ev) : Bool := z || (e.f0 == 1) || (e.f0 == 2)
def WfD : Nat → Bool → List Ev → Prop
 | _, _, [] => True
 | d, z, e :: l => okD d z e ∧ WfD (nextD d e) (nextZ z e) l
def endD : Nat → List Ev → Nat
 | d, [] => d
 | d, e :: l => endD (nextD d e) l
def endZ : Bool → List Ev → Bool
 | z, [] => z
 | z, e :: l => endZ (nextZ z e) l
theorem wfD_append : ∀ (a b : List Ev) (d : Nat) (z : Bool), WfD d z (a ++ b) ↔ WfD d z a ∧ WfD (endD d a) (endZ z a) b
 | [], b, d, z => ⟨fun h => ⟨trivial, h⟩, fun h => h.2⟩
 | e :: a, b, d, z => by
   show okD d z e ∧ WfD (nextD d e) (nextZ z e) (a ++ b) ↔ (okD d z e ∧ WfD (nextD d e) (nextZ z e) a) ∧ WfD (endD (nextD d e) a) (endZ (nextZ z e) a) b
   rw [wfD_append a b]
   exact ⟨fun h => ⟨⟨h.1, h.2.1⟩, h.2.2⟩, fun h => ⟨h.1.1, h.1.2, h.2⟩⟩
theorem endD_append : ∀ (a b : List Ev) (d : Nat), endD d (a ++ b) = endD (endD d a) b
 | [], b, d => rfl
 | e :: a, b, d => endD_append a b (nextD d e)
theorem endZ_append : ∀ (a b : List Ev) (z : Bool), endZ z (a ++ b) = endZ (endZ z a) b
 | [], b, z => rfl
 | e :: a, b, z => endZ_append a b (nextZ z e)
theorem next_5 (at_ : Int) (h : Hd) (b : Int) (d : Nat) (z : Bool) : nextD d (ev 5 at_ h b) = d - 1 ∧ nextZ z (ev 5 at_ h b) = z := ⟨rfl, by cases z <;> rfl⟩
theorem wfD_exits (at_ : Int) (z : Bool) : ∀ l : List Int, WfD l.length z (exits at_ l).2 ∧ endD l.length (exits at_ l).2 = (exits at_ l).1.length ∧ endZ z (exits at_ l).2 = z
 | [] => ⟨trivial, rfl, rfl⟩
 | x :: r => by
   unfold exits
   split
   ·
    have ih := wfD_exits at_ z r
    have h5 := next_5 at_ h0 0 (r.length + 1) z
    refine ⟨⟨⟨⟨by show (1 : Int) ≤ 5; decide, by show (5 : Int) ≤ 5; decide⟩, (fun h => absurd (show (5 : Int) = 1 ∨ (5 : Int) = 2 from h) zz8), (fun _ => Nat.succ_pos _), (fun h => absurd (show (5 : Int) = 1 from h) zz8), (fun h => absurd (show (5 : Int) = 2 from h) zz8)⟩, ?_⟩, ?_, ?_⟩
    ·
     show WfD (nextD (r.length + 1) _) (nextZ z _) _
     rw [h5.1, h5.2]; exact ih.1
    ·
     show endD (nextD (r.length + 1) _) _ = _
     rw [h5.1]; exact ih.2.1
    ·
     show endZ (nextZ z _) _ = _
     rw [h5.2]; exact ih.2.2
   ·
    exact ⟨trivial, rfl, rfl⟩
theorem wfD_ends (s : St) (n : Int) (d : Nat) (z : Bool) : WfD d z (ends s n) ∧ endD d (ends s n) = d ∧ endZ z (ends s n) = z := by
 unfold ends
 split
 ·
  refine ⟨⟨⟨⟨by show (1 : Int) ≤ 4; decide, by show (4 : Int) ≤ 5; decide⟩, (fun h => absurd (show (4 : Int) = 1 ∨ (4 : Int) = 2 from h) zz8), (fun h => absurd (show (4 : Int) = 5 from h) zz8), (fun h => absurd (show (4 : Int) = 1 from h) zz8), (fun h => absurd (show (4 : Int) = 2 from h) zz8)⟩, trivial⟩, rfl, by cases z <;> rfl⟩
 ·
  exact ⟨trivial, rfl, rfl⟩
def Fin (s : St) : Prop := s.begun = true → s.left = [] → s.leaf = 0 → s.came = []
theorem not_done {s : St} (hf : Fin s) (h0 : s.leaf = 0) (h : done s = false) : s.left = [] → s.begun = false := fun hl => by
 cases hb : s.begun with
 | false => rfl
 | true =>
   have hc := hf hb hl h0
   unfold done at h
   rw [hb, hl, h0, hc] at h
   exact absurd h zz8
theorem wfD_push (most : Nat) (s s' : St) (b : Int) (x : List Ev) (i : Nat) (hI : Inv most s i) (hf : Fin s) (hb : 0 ≤ b ∧ b < 256) (h : pushM most s b = (s', x, 0)) : WfD s.left.length s.begun x ∧ endD s.left.length x = s'.left.length ∧ endZ s.begun x = s'.begun ∧ Fin s' := by
 obtain ⟨hd, s1, x1, hs, rfl, rfl⟩ := push_ok most s s' b x hI.over h
 have hby := bytes_snoc hI.bytes hb
 have tl := tk_len s.left
 have key : WfD s.left.length s.begun x1 ∧ endD s.left.length x1 = s1.left.length ∧ endZ s.begun x1 = s1.begun ∧ (s1.came = [] ∨ (s1.left = [] → s1.begun = false)) := by
  rcases step_cases most s s1 b x1 hs with ⟨g1, rfl, rfl⟩ | ⟨g1, g2, ⟨g3, rfl, rfl⟩ | ⟨g3, g4, ⟨g5, g6, rfl, rfl⟩ | ⟨g5, rfl, rfl⟩⟩⟩
  ·
   have he := wfD_ends s (s.leaf - 1) s.left.length s.begun
   have hz : nextZ s.begun (ev 3 s.at_ h0 b) = s.begun := by cases s.begun <;> rfl
   refine ⟨⟨⟨⟨by show (1 : Int) ≤ 3; decide, by show (3 : Int) ≤ 5; decide⟩, (fun h => absurd (show (3 : Int) = 1 ∨ (3 : Int) = 2 from h) zz8), (fun h => absurd (show (3 : Int) = 5 from h) zz8), (fun h => absurd (show (3 : Int) = 1 from h) zz8), (fun h => absurd (show (3 : Int) = 2 from h) zz8)⟩, ?_⟩, ?_, ?_, .inl (hI.came zz4)⟩
   ·
    rw [hz]; exact he.1
   ·
    show endD s.left.length (ends s (s.leaf - 1)) = _
    rw [he.2.1]; exact tl.symm
   ·
    show endZ (nextZ s.begun (ev 3 s.at_ h0 b)) (ends s (s.leaf - 1)) = _
    rw [hz]; exact he.2.2
  ·
   have h0 : s.leaf = 0 := by have := hI.leaf0; omega
   refine ⟨trivial, tl.symm, rfl, .inr (fun hl => ?_)⟩
   have hl2 : (Mxm.tk s.left).1 = [] := hl
   rw [hl2] at tl
   exact not_done (s := s) hf h0 hd (List.eq_nil_of_length_eq_zero tl.symm)
  ·
   have h0 : s.leaf = 0 := by have := hI.leaf0; omega
   have ho := hd_ok hby g3
   have e1 := en_ok most (Mxm.tk s.left).1 (_root_.Go.Proofs.Ytcfommconnlhgaa.PC.hd (s.came ++ [b])).f3 (by rw [tl]; exact hI.len) ho.1.2.1 (tk_pos s.left hI.left0) g6
   refine ⟨⟨⟨⟨by show (1 : Int) ≤ 1; decide, by show (1 : Int) ≤ 5; decide⟩, (fun _ hl => not_done hf h0 hd (List.eq_nil_of_length_eq_zero hl)), (fun h => absurd (show (1 : Int) = 5 from h) zz8), (fun _ => g5), (fun h => absurd (show (1 : Int) = 2 from h) zz8)⟩, trivial⟩, ?_, ?_, .inl rfl⟩
   ·
    show s.left.length + 1 = _
    simp only
    omega
   ·
    show nextZ s.begun _ = true
    cases s.begun <;> rfl
  ·
   have h0 : s.leaf = 0 := by have := hI.leaf0; omega
   have he := wfD_ends s (_root_.Go.Proofs.Ytcfommconnlhgaa.PC.hd (s.came ++ [b])).f3 s.left.length true
   have hz : nextZ s.begun (ev 2 s.at_ (_root_.Go.Proofs.Ytcfommconnlhgaa.PC.hd (s.came ++ [b])) 0) = true := by cases s.begun <;> rfl
   refine ⟨⟨⟨⟨by show (1 : Int) ≤ 2; decide, by show (2 : Int) ≤ 5; decide⟩, (fun _ hl => not_done hf h0 hd (List.eq_nil_of_length_eq_zero hl)), (fun h => absurd (show (2 : Int) = 5 from h) zz8), (fun h => absurd (show (2 : Int) = 1 from h) zz8), (fun _ => g5)⟩, ?_⟩, ?_, ?_, .inl rfl⟩
   ·
    rw [hz]; exact he.1
   ·
    show endD s.left.length (ends s _) = _
    rw [he.2.1]; exact tl.symm
   ·
    show endZ (nextZ s.begun (ev 2 s.at_ _ 0)) (ends s _) = _
    rw [hz]; exact he.2.2
 obtain ⟨k1, k2, k3, k4⟩ := key
 unfold closeM
 split
 ·
  rename_i hc
  have hx := wfD_exits s1.at_ s1.begun s1.left
  rw [wfD_append, endD_append, endZ_append, k2, k3]
  exact ⟨⟨k1, hx.1⟩, hx.2.1, hx.2.2, fun _ _ _ => hc.2⟩
 ·
  rw [List.append_nil]
  refine ⟨k1, k2, k3, fun hb1 hl1 h1 => ?_⟩
  exact k4.elim id (fun h => by have := (h hl1).symm.trans hb1; cases this)
theorem run_wfD (most : Nat) : ∀ (l : List Int) (s : St) (i : Nat) (acc : List Ev), Idm.Bytes l → Inv most s i → Fin s → ∃ xs, (runM most s l i acc).1 = acc ++ xs ∧ WfD s.left.length s.begun xs
 | [], s, i, acc, hb, hI, hf => ⟨[], by simp [runM], trivial⟩
 | b :: r, s, i, acc, hb, hI, hf => by
   obtain ⟨⟨s', x, e⟩, hp⟩ : ∃ q, pushM most s b = q := ⟨_, rfl⟩
   rw [runM_step most s s' b x e _ _ _ hp]
   by_cases he : e = 0
   ·
    subst he
    have hq := push_inv most s s' b x i hI (hb b zz19) hp
    have hw := wfD_push most s s' b x i hI hf (hb b zz19) hp
    simp only [ne_eq, not_true_eq_false, if_false]
    obtain ⟨xs, h1, h2⟩ := run_wfD most r s' (i + 1) (acc ++ x) (fun y hy => hb y (by simp [hy])) hq.1 hw.2.2.2
    have ei : ((i : Int) + 1) = ((i + 1 : Nat) : Int) := by omega
    rw [ei, h1]
    exact ⟨x ++ xs, by rw [List.append_assoc], (wfD_append x xs _ _).2 ⟨hw.1, by rw [hw.2.1, hw.2.2.1]; exact h2⟩⟩
   ·
    rw [if_pos he]
    exact ⟨[], zz19, trivial⟩
theorem evs_wfD (most : Nat) (l : List Int) (hl : Idm.Bytes l) : WfD 0 false (wholeM most l).1 := by
 obtain ⟨xs, h1, h2⟩ := run_wfD most l init0 0 [] hl (inv0 most) (fun h _ _ => by cases h)
 unfold wholeM
 rw [show (0 : Int) = ((0 : Nat) : Int) from rfl, h1, List.nil_append]
 exact h2
end Go.Proofs.Ytcfommconnlhgaa.Vp
namespace Go.Proofs.Ytcfommconnlhgaa.Gm
open RowKit PC YtcfommconnlhgaaW.PrintWords YtcfommconnlhgaaW.PrintLast YtcfommconnlhgaaW.PrintMore
open Bs Vp
set_option linter.unusedVariables false
set_option linter.unusedSimpArgs false
def isH (h : Hd) (ts : List Int) : Bool := ts.any fun t => (h.f0 == 0) && !h.f2 && (h.f1 == t)
def allH (h : Hd) (t : Int) : Bool := (h.f0 == 0) && h.f2 && (h.f1 == t)
def elemG (p : Int) (h : Hd) : Bool :=
 if p = 6 then true
 else if p = 3 then isH h [2] && (h.f3 == 1)
 else if p = 15 then isH h [2]
 else if p = 5 then isH h [6]
 else if p = 10 then isH h [12, 19, 22]
 else if p = 11 ∨ p = 12 ∨ p = 16 then isH h [23, 24]
 else if p = 19 then isH h [1]
 else if p = 20 then isH h [4]
 else if p = 22 then isH h [3]
 else if p = 8 then allH h 17
 else if p = 21 then (h.f0 == 2) && h.f2 && (h.f1 == 0)
 else allH h 16
def nextG (p c : Int) : List Int × Bool :=
 if p = 0 then (if c = 0 then ([1], false) else ([], true))
 else if p = 1 then (if c = 0 then ([2], false) else if c = 2 then ([4], false) else if c = 4 then ([22], false) else ([], true))
 else if p = 2 then (if c = 0 then ([3, 4], false) else if c = 3 then ([4], false) else if c = 4 then ([7], false) else if c = 7 then ([11], false) else if c = 11 then ([12, 13, 21], true) else if c = 12 then ([13, 21], true) else if c = 13 then ([21], true) else ([], true))
 else if p = 4 then (if c = 0 then ([5], false) else if c = 5 then ([6], true) else ([], true))
 else if p = 6 then (if c = 0 ∨ c = 6 then ([6], true) else ([], true))
 else if p = 7 then (if c = 0 ∨ c = 8 then ([8], true) else ([], true))
 else if p = 8 then (if c = 0 then ([9], false) else if c = 9 then ([9], true) else ([], true))
 else if p = 9 then (if c = 0 then ([5], false) else if c = 5 then ([10], false) else ([], true))
 else if p = 13 then (if c = 0 then ([14], false) else if c = 14 then ([14], true) else ([], true))
 else if p = 14 then (if c = 0 then ([15], false) else if c = 15 then ([16], false) else if c = 16 then ([17], true) else ([], true))
 else if p = 17 then (if c = 0 then ([18], false) else if c = 18 then ([18], true) else ([], true))
 else if p = 18 then (if c = 0 then ([5], false) else if c = 5 then ([19, 20], false) else if c = 19 then ([20], false) else ([], true))
 else if p = 21 then (if c = 0 then ([17], false) else ([], true))
 else ([], true)
def pcs : List (Int × Int) :=
 [(0, 0), (1, 0), (1, 2), (1, 4), (1, 22), (2, 0), (2, 3), (2, 4), (2, 7), (2, 11), (2, 12), (2, 13), (2, 21), (3, 0), (4, 0), (4, 5), (4, 6), (5, 0), (6, 0), (6, 6), (7, 0), (7, 8), (8, 0), (8, 9), (9, 0), (9, 5), (9, 10), (10, 0), (11, 0), (12, 0),
  (13, 0), (13, 14), (14, 0), (14, 15), (14, 16), (14, 17), (15, 0), (16, 0), (17, 0), (17, 18), (18, 0), (18, 5), (18, 19), (18, 20), (19, 0), (20, 0), (21, 0), (21, 17), (22, 0)]
theorem next_mem : ∀ q ∈ pcs, ∀ p ∈ (nextG q.1 q.2).1, (1 ≤ p ∧ p ≤ 22) ∧ (q.1, p) ∈ (0, 1) :: pcs := by decide
theorem part0 : ∀ p : Int, 0 ≤ p → p ≤ 22 → (p, 0) ∈ pcs := by
 intro p h0 h1
 have : p = 0 ∨ p = 1 ∨ p = 2 ∨ p = 3 ∨ p = 4 ∨ p = 5 ∨ p = 6 ∨ p = 7 ∨ p = 8 ∨ p = 9 ∨ p = 10 ∨ p = 11 ∨ p = 12 ∨ p = 13 ∨ p = 14 ∨ p = 15 ∨ p = 16 ∨ p = 17 ∨ p = 18 ∨ p = 19 ∨ p = 20 ∨ p = 21 ∨ p = 22 := by omega
 rcases this with rfl | rfl | rfl | rfl | rfl | rfl | rfl | rfl | rfl | rfl | rfl | rfl | rfl | rfl | rfl | rfl | rfl | rfl | rfl | rfl | rfl | rfl | rfl <;> decide
structure Gs where
 st : List (Int × Int)
 leaf : Int
 ver : Bool
def g0 : Gs := ⟨[], 0, false⟩
def headG (ver : Bool) (top : Int × Int) (h : Hd) : Int := match (nextG top.1 top.2).1.find? (fun p => elemG p h) with
 | none => 0
 | some p => if ver = false ∧ (p = 21 ∨ (p = 17 ∧ top.1 = 14)) then 0 else p
def setG (st : List (Int × Int)) (p : Int) : List (Int × Int) := if p = 0 then st else match st with
 | [] => []
 | (a, _) :: r => (a, p) :: r
def topG (st : List (Int × Int)) : Int × Int := st.headD (0, 0)
def lookG (s : Gs) (e : Ev) : Gs × Int :=
 if e.f0 = 1 then (⟨(headG s.ver (topG s.st) e.f2, 0) :: setG s.st (headG s.ver (topG s.st) e.f2), s.leaf, s.ver⟩, headG s.ver (topG s.st) e.f2)
 else if e.f0 = 2 then (⟨setG s.st (headG s.ver (topG s.st) e.f2), headG s.ver (topG s.st) e.f2, s.ver || (headG s.ver (topG s.st) e.f2 == 3)⟩, headG s.ver (topG s.st) e.f2)
 else if e.f0 = 3 then (s, if (s.leaf = 3 ∧ e.f3 ≠ 1) ∨ (s.leaf = 19 ∧ e.f3 ≠ 255) then 0 else s.leaf)
 else if e.f0 = 5 then (⟨s.st.tail, s.leaf, s.ver⟩, if (nextG (topG s.st).1 (topG s.st).2).2 = true then (topG s.st).1 else 0)
 else (s, s.leaf)
theorem head_part {ver : Bool} {top : Int × Int} {h : Hd} (ht : top ∈ pcs) : (headG ver top h = 0 ∨ (1 ≤ headG ver top h ∧ (top.1, headG ver top h) ∈ (0, 1) :: pcs)) ∧ 0 ≤ headG ver top h ∧ headG ver top h ≤ 22 := by
 unfold headG
 cases hf : (nextG top.1 top.2).1.find? (fun p => elemG p h) with
 | none => exact ⟨.inl rfl, zz19, zz19⟩
 | some p =>
   have hm := next_mem top ht p (List.mem_of_find?_eq_some hf)
   simp only
   split
   ·
    exact ⟨.inl rfl, zz19, zz19⟩
   ·
    exact ⟨.inr ⟨hm.1.1, hm.2⟩, zz4, hm.1.2⟩
theorem top_mem {st : List (Int × Int)} (h : ∀ q ∈ st, q ∈ pcs) : topG st ∈ pcs := by
 cases st with
 | nil => decide
 | cons q r => exact h q zz19
theorem zero_mem {p : Int} (hp : 1 ≤ p) {a : Int} (h : (a, p) ∈ (0, 1) :: pcs) (ha : (a, p) ≠ (0, 1)) : (a, p) ∈ pcs := (List.mem_cons.1 h).resolve_left ha
def Ins (st : List (Int × Int)) : Prop := ∀ q ∈ st, q ∈ pcs ∧ q.1 ≠ 0
theorem set_ins {st : List (Int × Int)} {ver : Bool} {h : Hd} (hi : Ins st) : Ins (setG st (headG ver (topG st) h)) ∧ (setG st (headG ver (topG st) h)).length = st.length := by
 unfold setG
 split
 ·
  exact ⟨hi, rfl⟩
 ·
  rename_i h0
  cases st with
  | nil => exact ⟨hi, rfl⟩
  | cons q r =>
    obtain ⟨a, c⟩ := q
    have hq := hi (a, c) zz19
    have hp := head_part (ver := ver) (top := (a, c)) (h := h) hq.1
    refine ⟨fun x hx => ?_, rfl⟩
    rcases List.mem_cons.1 hx with rfl | hx
    ·
     rcases hp.1 with h1 | h1
     ·
      exact absurd h1 h0
     ·
      exact ⟨zero_mem h1.1 h1.2 (fun he => hq.2 (congrArg Prod.fst he)), hq.2⟩
    ·
     exact hi x (by simp [hx])
structure Okg (s : Gs) (d : Nat) : Prop where
 ins : Ins s.st
 len : s.st.length = d
 leaf : 0 ≤ s.leaf ∧ s.leaf ≤ 22
theorem okg0 : Okg g0 0 := ⟨fun q h => by simp [g0] at h, rfl, zz8, zz8⟩
theorem Ins.mem {st : List (Int × Int)} (h : Ins st) : ∀ q ∈ st, q ∈ pcs := fun q hq => (h q hq).1
theorem look_ok {s : Gs} {d : Nat} {z : Bool} {e : Ev} (hg : Okg s d) (he : okD d z e) (hr : (lookG s e).2 ≠ 0) : Okg (lookG s e).1 (nextD d e) := by
 obtain ⟨g1, g2, g3⟩ := hg
 have ht := top_mem g1.mem
 have hp := head_part (ver := s.ver) (top := topG s.st) (h := e.f2) ht
 have hs := set_ins (ver := s.ver) (h := e.f2) g1
 unfold lookG at hr ⊢
 by_cases h1 : e.f0 = 1
 ·
  rw [if_pos h1] at hr ⊢
  have hn : nextD d e = d + 1 := by unfold nextD; rw [if_pos h1]
  rw [hn]
  refine ⟨fun q hq => ?_, by simp only [List.length_cons]; omega, g3⟩
  rcases List.mem_cons.1 hq with rfl | hq
  ·
   exact ⟨part0 _ hp.2.1 hp.2.2, hr⟩
  ·
   exact hs.1 q hq
 rw [if_neg h1] at hr ⊢
 have hn : e.f0 ≠ 5 → nextD d e = d := fun h5 => by unfold nextD; rw [if_neg h1, if_neg h5]
 by_cases h2 : e.f0 = 2
 ·
  rw [if_pos h2] at hr ⊢
  rw [hn zz4]
  exact ⟨hs.1, by simp only; omega, hp.2⟩
 rw [if_neg h2] at hr ⊢
 by_cases h3 : e.f0 = 3
 ·
  rw [if_pos h3] at hr ⊢
  rw [hn zz4]
  exact ⟨g1, g2, g3⟩
 rw [if_neg h3] at hr ⊢
 by_cases h5 : e.f0 = 5
 ·
  rw [if_pos h5] at hr ⊢
  have hn5 : nextD d e = d - 1 := by unfold nextD; rw [if_neg h1, if_pos h5]
  rw [hn5]
  exact ⟨fun q hq => g1 q (List.mem_of_mem_tail hq), by simp only [List.length_tail]; omega, g3⟩
 ·
  rw [if_neg h5] at hr ⊢
  rw [hn h5]
  exact ⟨g1, g2, g3⟩
def badG : Cs → Gs → List Ev → Option (Int × Int)
 | _, _, [] => none
 | c, s, e :: l => match lookC c e with
   | none => some (7, e.f1)
   | some c' => if (lookG s e).2 = 0 then some (8, e.f1) else badG c' (lookG s e).1 l
def wholeG (most : Nat) (l : List Int) : Int × Int := match badG .any g0 (wholeM most l).1 with
 | some q => q
 | none => ((wholeM most l).2.1, (wholeM most l).2.2)
def endC : Cs → Gs → List Ev → Cs × Gs
 | c, s, [] => (c, s)
 | c, s, e :: l => match lookC c e with
   | none => (c, s)
   | some c' => if (lookG s e).2 = 0 then (c, s) else endC c' (lookG s e).1 l
theorem badG_append : ∀ (a b : List Ev) (c : Cs) (s : Gs), badG c s (a ++ b) = (match badG c s a with
 | some q => some q
 | none => badG (endC c s a).1 (endC c s a).2 b)
 | [], b, c, s => rfl
 | e :: a, b, c, s => by
   simp only [List.cons_append, badG, endC]
   cases lookC c e with
   | none => rfl
   | some c' =>
     simp only
     split
     ·
      rfl
     ·
      exact badG_append a b c' _
theorem badG_mem : ∀ (a : List Ev) (c : Cs) (s : Gs) (q : Int × Int), badG c s a = some q → ∃ e ∈ a, q.2 = e.f1
 | x :: a, c, s, q, h => by
   unfold badG at h
   cases hl : lookC c x with
   | none => rw [hl] at h; cases h; exact ⟨x, List.mem_cons_self .., rfl⟩
   | some c' =>
     rw [hl] at h
     simp only at h
     split at h
     ·
      cases h; exact ⟨x, List.mem_cons_self .., rfl⟩
     ·
      obtain ⟨e, he, h2⟩ := badG_mem a c' _ q h
      exact ⟨e, List.mem_cons_of_mem _ he, h2⟩
theorem wholeG_front (most : Nat) (l m : List Int) (hl : Idm.Bytes l) (hm : Idm.Bytes m) (e at_ f on : Int) (h1 : wholeG most (l ++ m) = (e, at_)) (h2 : wholeG most l = (f, on)) :
 if on < (l.length : Int) then f = e ∧ on = at_ else on = (l.length : Int) ∧ (f = 0 ∨ f = 2) ∧ (e = 0 ∨ (l.length : Int) ≤ at_) := by
 unfold wholeG wholeM at h1 h2
 rcases run_split most l m init0 0 [] hl (inv0 most) with ⟨s', xs, a1, a2, a3, a4, a5⟩ | ⟨xs, e2, j, a1, a2, a3, a4, a5, a6, a7⟩
 ·
  rw [show ((0 : Nat) : Int) = 0 from rfl] at a4 a5
  rw [a4] at h2
  rw [a5] at h1
  rw [List.nil_append] at h1 h2
  rw [Nat.zero_add] at a2 h1 h2
  have key : ∃ ys e3 j3, runM most s' m (l.length : Nat) xs = (xs ++ ys, e3, j3) ∧ (∀ y ∈ ys, ((l.length : Nat) : Int) ≤ y.f1) ∧ ((l.length : Nat) : Int) ≤ j3 := by
   rcases run_split most m [] s' (0 + l.length) xs hm a1 with ⟨s2, ys, b1, b2, b3, b4, b5⟩ | ⟨ys, e3, j3, b1, b2, b3, b4, b5, b6, b7⟩
   ·
    rw [Nat.zero_add] at b2 b4
    exact ⟨ys, _, _, b4, fun y hy => (b2 y hy).1, zz4⟩
   ·
    rw [Nat.zero_add] at b2 b3 b4 b6
    exact ⟨ys, _, _, b6, fun y hy => (b4 y hy).1, zz4⟩
  obtain ⟨ys, e3, j3, k1, k2, k3⟩ := key
  rw [k1] at h1
  rw [badG_append] at h1
  cases hb : badG .any g0 xs with
  | some q =>
    rw [hb] at h1 h2
    simp only at h1 h2
    obtain ⟨y, hy, hq⟩ := badG_mem xs _ _ q hb
    have := a2 y hy
    subst h1
    cases h2
    simp only at hq
    rw [if_pos zz4]
    exact ⟨rfl, rfl⟩
  | none =>
    rw [hb] at h1 h2
    simp only [Prod.mk.injEq] at h2
    rw [if_neg zz4]
    refine ⟨h2.2.symm, by have := h2.1; split at this <;> omega, ?_⟩
    cases hc : badG (endC .any g0 xs).1 (endC .any g0 xs).2 ys with
    | some q =>
      simp only [hc] at h1
      obtain ⟨y, hy, hq⟩ := badG_mem ys _ _ q hc
      have := k2 y hy
      subst h1
      simp only at hq
      omega
    | none =>
      simp only [hc, Prod.mk.injEq] at h1
      omega
 ·
  rw [show ((0 : Nat) : Int) = 0 from rfl] at a6 a7
  rw [a6] at h2
  rw [a7] at h1
  have he : (f, on) = (e, at_) := h2.symm.trans h1
  simp only [Prod.mk.injEq] at he
  rw [List.nil_append] at h2
  cases hb : badG .any g0 xs with
  | some q =>
    rw [hb] at h2
    simp only at h2
    obtain ⟨y, hy, hq⟩ := badG_mem xs _ _ q hb
    have := a4 y hy
    subst h2
    simp only at hq
    rw [if_pos zz4]
    exact he
  | none =>
    rw [hb] at h2
    simp only [Prod.mk.injEq] at h2
    rw [if_pos zz4]
    exact he
end Go.Proofs.Ytcfommconnlhgaa.Gm
namespace Go.Proofs.Ytcfommconnlhgaa.Vp
open RowKit YtcfommconnlhgaaW.PrintWords Own
theorem up_cell {w W : World} (hu : Upd None0 w W) {a : Addr} {v : Value} (h : w.cell? a = some v) : W.cell? a = some v := (hu.below0.cell (block_lt_of_cell h)).trans h
end Go.Proofs.Ytcfommconnlhgaa.Vp
namespace Go.Proofs.Ytcfommconnlhgaa.Gm
open RowKit PC YtcfommconnlhgaaW.PrintWords YtcfommconnlhgaaW.PrintLast YtcfommconnlhgaaW.PrintMore Own Sl
open Bs Vp
set_option linter.unusedVariables false
set_option linter.unusedSimpArgs false
theorem int_at {w : World} {A : Option Addr} {n : Nat} {xs : List Int} (h : (Kd.int .i64).C w A n xs) (i : Nat) (h1 : i < n) : ∃ ad, A = some ad ∧ w.cell? (ad.add i) = some (.int .i64 (xs.getD i 0)) := by
 obtain ⟨ad, c, e, _, hK, hc0⟩ := Kd.C_get h (0 : Int) (i : Int) zz4 zz4
 have hc : ∀ j u, c[j]? = some u → w.cell? (ad.add ((i : Int).toNat * 1 + j)) = some u := hc0
 obtain rfl := hK
 have hq := hc 0 _ rfl
 rw [Nat.mul_one, Nat.add_zero, Int.toNat_natCast] at hq
 exact ⟨ad, e, hq⟩
theorem isH_take {h : Hd} {ts : List Int} {i : Nat} {t : Int} (hi : ts[i]? = some t) : isH h (ts.take (i + 1)) = (isH h (ts.take i) || ((h.f0 == 0) && !h.f2 && (h.f1 == t))) := by
 unfold isH
 rw [List.take_add_one, hi, Option.toList_some, List.any_append]
 simp
theorem isH_any {h : Hd} {ts : List Int} {i : Nat} {t : Int} (hi : ts[i]? = some t) (hm : ((h.f0 == 0) && !h.f2 && (h.f1 == t)) = true) : isH h ts = true := by
 unfold isH
 rw [List.any_eq_true]
 exact ⟨t, List.mem_of_getElem? hi, hm⟩
set_option maxHeartbeats 4000000 in
set_option maxRecDepth 100000 in
theorem is_any (c t : Int) (k : Bool) (n : Int) (ts : List Int) (m : Nat) (A : Option Addr) (cap : Nat) (w : World) (hC : (Kd.int .i64).C w A m ts) (hl : m ≤ 1000) :
 Calls Try.prog 61 #[.agg #[.int .i64 c, .int .i64 t, .bool k, .int .i64 n], .slice A m cap] w fun e w' => e = .returned (.bool (isH ⟨c, t, k, n⟩ ts)) ∧ Upd None0 w w' := by
 have hS := Sp.nil (w := w) (S := None0)
 have HC := Aside0.mk hC
 have hu := Try.underlying32
 have HM := Aside0.mk (Kd.C_len hC)
 have HT := Aside0.mk (show isH ⟨c, t, k, n⟩ (ts.take m) = isH ⟨c, t, k, n⟩ ts by rw [← HM.out, List.take_length])
 have HL := Aside0.mk hl
 obtain ⟨r, hr⟩ : ∃ r, isH ⟨c, t, k, n⟩ ts = r := ⟨_, rfl⟩
 have HR := Aside0.mk hr
 rw [hr] at HT ⊢
 clear hC hr hl
 obtain ⟨h, hh⟩ : ∃ h : Hd, h = ⟨c, t, k, n⟩ := ⟨_, rfl⟩
 have HH := Aside0.mk hh
 rw [← hh] at HT HR
 clear hh
 go_enter Try.func61, Try.ntmps61
 go_wp2_with (first
  | ((with_reducible refine gate_dst (N := 2) rfl ?_)
     refine sp_box hS rfl (N := 2) rfl _ 32 zz1 ?_
     intro ge w1 hge hS))
 go_loopg [9] m (fun gk v9 wr => ∃ (i : Nat), v9 = .int .i64 (i : Int) ∧ Aside0 (i ≤ m ∧ m - i ≤ gk ∧ isH h (ts.take i) = false) ∧ Aside0 (Sp w None0 [blk ge #[.int .i64 c, .int .i64 t, .bool k, .int .i64 n] 32] wr))
 case atStart => exact ⟨0, rfl, ⟨Nat.zero_le _, zz4, rfl⟩, ⟨by exact hS⟩⟩
 case round =>
  clear hS
  obtain ⟨i, rfl, HI, HS⟩ := hrel
  have hS := HS.out
  clear HS
  obtain ⟨k0, k1, k2, k3⟩ := hS.cells4 0
  have hi0 : (0 : Int) ≤ (i : Int) := by omega
  have hi1 : (i : Int) ≤ 1000 := by have := HI.out.1; have := HL.out; omega
  by_cases hlt : i < m
  case neg =>
   have hd : decide (i < m) = false := decide_eq_false hlt
   have HF := Aside0.mk (show false = r by
    have h1 := HI.out
    rw [show i = m by omega] at h1
    rw [← HT.out]; exact h1.2.2.symm)
   clear hlt HI
   obtain rfl := HF.out
   go_wp2
   go_ret
   exact ⟨rfl, Sp.u zz25⟩
  have hd : decide (i < m) = true := decide_eq_true hlt
  have hil : i < ts.length := by rw [HM.out]; exact hlt
  obtain ⟨ad, rfl, hcl⟩ := int_at HC.out i hlt
  replace hcl := up_cell hS.u hcl
  obtain ⟨x, hx⟩ : ∃ x, ts.getD i 0 = x := ⟨_, rfl⟩
  have hxx : ts[i]? = some x := by rw [← hx, List.getD_eq_getElem?_getD, List.getElem?_eq_getElem hil]; rfl
  rw [hx] at hcl
  have HY := Aside0.mk (show ((c == 0) && !k && (t == x)) = true → r = true from fun hm => by rw [← HR.out]; exact isH_any hxx (by rw [HH.out]; exact hm))
  have HN := Aside0.mk (show isH h (ts.take (i + 1)) = (isH h (ts.take i) || ((c == 0) && !k && (t == x))) by have h1 := isH_take (h := h) hxx; rw [HH.out] at h1 ⊢; exact h1)
  have HLT := Aside0.mk hlt
  have hin : (i : Int) < (m : Int) := by omega
  clear hx hxx hil hlt
  cases e1 : (c == 0) <;> cases k <;> cases e2 : (t == x)
  all_goals
   simp only [e1, e2, Bool.not_true, Bool.not_false, Bool.and_true, Bool.and_false, Bool.or_false] at HY HN
   first
   | (have hrt : r = true := by exact HY.out trivial
      subst hrt
      go_wp2
      go_ret
      exact ⟨rfl, Sp.u zz25⟩)
   | (go_wp2
      go_roundg (gk - 1)
      case measure => have := HI.out; have := HLT.out; omega
      case rel => exact ⟨i + 1, zz19, ⟨by have := HLT.out; omega, by have := HI.out; have := HLT.out; omega, by rw [HN.out]; exact HI.out.2.2⟩, ⟨zz25⟩⟩)
set_option maxHeartbeats 4000000 in
set_option maxRecDepth 100000 in
theorem all_any (c t : Int) (k : Bool) (n x : Int) (w : World) :
 Calls Try.prog 62 #[.agg #[.int .i64 c, .int .i64 t, .bool k, .int .i64 n], .int .i64 x] w fun e w' => e = .returned (.bool (allH ⟨c, t, k, n⟩ x)) ∧ Upd None0 w w' := by
 have hS := Sp.nil (w := w) (S := None0)
 have hu := Try.underlying32
 obtain ⟨r, hr⟩ : ∃ r, allH ⟨c, t, k, n⟩ x = r := ⟨_, rfl⟩
 have HR := Aside0.mk hr
 rw [hr]
 clear hr
 cases e1 : (c == 0) <;> cases k <;> cases e2 : (t == x)
 all_goals
  have hq := HR.out
  unfold allH at hq
  simp only [e1, e2, Bool.and_true, Bool.and_false] at hq
  subst hq
  go_enter Try.func62, Try.ntmps62
  go_wp2_with (first
   | ((with_reducible refine gate_dst (N := 2) rfl ?_)
      refine sp_box hS rfl (N := 2) rfl _ 32 zz1 ?_
      intro ge w1 hge hS
      obtain ⟨k0, k1, k2, k3⟩ := hS.cells4 0))
  go_ret
  exact ⟨rfl, Sp.u zz25⟩
set_option maxHeartbeats 4000000 in
set_option maxRecDepth 100000 in
theorem element3 (c t : Int) (k : Bool) (n : Int) (w : World) :
 Calls Try.prog 46 #[.int .i64 3, .agg #[.int .i64 c, .int .i64 t, .bool k, .int .i64 n]] w fun e w' => e = .returned (.bool (elemG 3 ⟨c, t, k, n⟩)) ∧ Upd None0 w w' := by
 have hS := Sp.nil (w := w) (S := None0)
 have hu := Try.underlying32
 show Calls _ _ _ _ fun e w' => e = .returned (.bool (isH ⟨c, t, k, n⟩ [2] && (n == 1))) ∧ Upd None0 w w'
 have HIS := Aside0.mk (fun A cap W h => is_any c t k n [2] 1 A cap W h zz8)
 cases e1 : isH ⟨c, t, k, n⟩ [2] <;> cases e2 : (n == 1)
 all_goals
  rw [e1] at HIS
  clear e1
  go_enter Try.func46, Try.ntmps46
  go_wp2_with (first
   | ((with_reducible refine gate_dst (N := 3) rfl ?_)
      refine sp_box hS rfl (N := 3) rfl _ 32 zz1 ?_
      intro ge w1 hge hS
      obtain ⟨k0, k1, k2, k3⟩ := hS.cells4 0)
   | ((with_reducible refine gate_dst (N := 11) rfl ?_)
      refine sp_lit (Kd.int .i64) hS 3 rfl (N := 11) rfl [2] [.int .i64 2] zz1 (Reps.one rfl (Reps.none _ _)) zz19 ?_
      intro A1 c1 w2 hS
      have HR := Aside0.mk (hS.reads 0)
      clear k0 k1 k2 k3
      obtain ⟨k0, k1, k2, k3⟩ := hS.cells4 1)
   | (go_at_call 61
      (with_reducible refine (HIS.out A1 c1 _ (by exact cl_ HR)).mono ?_)
      rintro e w3 ⟨rfl, hun⟩
      replace hS := hS.toN hun
      clear k0 k1 k2 k3 hun
      obtain ⟨k0, k1, k2, k3⟩ := hS.cells4 1))
  go_ret
  exact ⟨rfl, Sp.u zz25⟩
set_option maxHeartbeats 4000000 in
set_option maxRecDepth 100000 in
theorem element21 (c t : Int) (k : Bool) (n : Int) (w : World) :
 Calls Try.prog 46 #[.int .i64 21, .agg #[.int .i64 c, .int .i64 t, .bool k, .int .i64 n]] w fun e w' => e = .returned (.bool (elemG 21 ⟨c, t, k, n⟩)) ∧ Upd None0 w w' := by
 have hS := Sp.nil (w := w) (S := None0)
 have hu := Try.underlying32
 show Calls _ _ _ _ fun e w' => e = .returned (.bool ((c == 2) && k && (t == 0))) ∧ Upd None0 w w'
 cases e1 : (c == 2) <;> cases k <;> cases e2 : (t == 0)
 all_goals
  go_enter Try.func46, Try.ntmps46
  go_wp2_with (first
   | ((with_reducible refine gate_dst (N := 3) rfl ?_)
      refine sp_box hS rfl (N := 3) rfl _ 32 zz1 ?_
      intro ge w1 hge hS
      obtain ⟨k0, k1, k2, k3⟩ := hS.cells4 0))
  go_ret
  exact ⟨rfl, Sp.u zz25⟩
set_option maxHeartbeats 4000000 in
set_option maxRecDepth 100000 in
theorem element_any (p c t : Int) (k : Bool) (n : Int) (w : World) (h1 : 1 ≤ p) (h2 : p ≤ 22) :
 Calls Try.prog 46 #[.int .i64 p, .agg #[.int .i64 c, .int .i64 t, .bool k, .int .i64 n]] w fun e w' => e = .returned (.bool (elemG p ⟨c, t, k, n⟩)) ∧ Upd None0 w w' := by
 by_cases h3 : p = 3
 ·
  subst h3; exact element3 c t k n w
 by_cases h21 : p = 21
 ·
  subst h21; exact element21 c t k n w
 have hS := Sp.nil (w := w) (S := None0)
 have hu := Try.underlying32
 have hp : p = 1 ∨ p = 2 ∨ p = 4 ∨ p = 5 ∨ p = 6 ∨ p = 7 ∨ p = 8 ∨ p = 9 ∨ p = 10 ∨ p = 11 ∨ p = 12 ∨ p = 13 ∨ p = 14 ∨ p = 15 ∨ p = 16 ∨ p = 17 ∨ p = 18 ∨ p = 19 ∨ p = 20 ∨ p = 22 := by omega
 clear h1 h2 h3 h21
 rcases hp with rfl | rfl | rfl | rfl | rfl | rfl | rfl | rfl | rfl | rfl | rfl | rfl | rfl | rfl | rfl | rfl | rfl | rfl | rfl | rfl
 all_goals
  go_enter Try.func46, Try.ntmps46
  go_wp2_with (first
   | ((with_reducible refine gate_dst (N := 3) rfl ?_)
      refine sp_box hS rfl (N := 3) rfl _ 32 zz1 ?_
      intro ge w1 hge hS
      obtain ⟨k0, k1, k2, k3⟩ := hS.cells4 0)
   | ((with_reducible refine gate_dst (N := 21) rfl ?_)
      refine sp_lit (Kd.int .i64) hS 3 rfl (N := 21) rfl [2] [.int .i64 2] zz1 (Reps.one rfl (Reps.none _ _)) zz19 ?_
      intro A1 c1 w2 hS
      have HR := Aside0.mk (hS.reads 0)
      clear k0 k1 k2 k3
      obtain ⟨k0, k1, k2, k3⟩ := hS.cells4 1)
   | ((with_reducible refine gate_dst (N := 26) rfl ?_)
      refine sp_lit (Kd.int .i64) hS 3 rfl (N := 26) rfl [6] [.int .i64 6] zz1 (Reps.one rfl (Reps.none _ _)) zz19 ?_
      intro A1 c1 w2 hS
      have HR := Aside0.mk (hS.reads 0)
      clear k0 k1 k2 k3
      obtain ⟨k0, k1, k2, k3⟩ := hS.cells4 1)
   | ((with_reducible refine gate_dst (N := 31) rfl ?_)
      refine sp_lit (Kd.int .i64) hS 3 rfl (N := 31) rfl [12, 19, 22] [.int .i64 12, .int .i64 19, .int .i64 22] zz1 (Reps.one rfl (Reps.one rfl (Reps.one rfl (Reps.none _ _)))) zz19 ?_
      intro A1 c1 w2 hS
      have HR := Aside0.mk (hS.reads 0)
      clear k0 k1 k2 k3
      obtain ⟨k0, k1, k2, k3⟩ := hS.cells4 1)
   | ((with_reducible refine gate_dst (N := 38) rfl ?_)
      refine sp_lit (Kd.int .i64) hS 3 rfl (N := 38) rfl [23, 24] [.int .i64 23, .int .i64 24] zz1 (Reps.one rfl (Reps.one rfl (Reps.none _ _))) zz19 ?_
      intro A1 c1 w2 hS
      have HR := Aside0.mk (hS.reads 0)
      clear k0 k1 k2 k3
      obtain ⟨k0, k1, k2, k3⟩ := hS.cells4 1)
   | ((with_reducible refine gate_dst (N := 43) rfl ?_)
      refine sp_lit (Kd.int .i64) hS 3 rfl (N := 43) rfl [1] [.int .i64 1] zz1 (Reps.one rfl (Reps.none _ _)) zz19 ?_
      intro A1 c1 w2 hS
      have HR := Aside0.mk (hS.reads 0)
      clear k0 k1 k2 k3
      obtain ⟨k0, k1, k2, k3⟩ := hS.cells4 1)
   | ((with_reducible refine gate_dst (N := 48) rfl ?_)
      refine sp_lit (Kd.int .i64) hS 3 rfl (N := 48) rfl [4] [.int .i64 4] zz1 (Reps.one rfl (Reps.none _ _)) zz19 ?_
      intro A1 c1 w2 hS
      have HR := Aside0.mk (hS.reads 0)
      clear k0 k1 k2 k3
      obtain ⟨k0, k1, k2, k3⟩ := hS.cells4 1)
   | ((with_reducible refine gate_dst (N := 53) rfl ?_)
      refine sp_lit (Kd.int .i64) hS 3 rfl (N := 53) rfl [3] [.int .i64 3] zz1 (Reps.one rfl (Reps.none _ _)) zz19 ?_
      intro A1 c1 w2 hS
      have HR := Aside0.mk (hS.reads 0)
      clear k0 k1 k2 k3
      obtain ⟨k0, k1, k2, k3⟩ := hS.cells4 1)
   | (go_at_call 61
      (with_reducible refine (is_any c t k n _ _ A1 c1 _ (by exact cl_ HR) zz8).mono ?_)
      rintro e w3 ⟨rfl, hun⟩
      replace hS := hS.toN hun
      clear k0 k1 k2 k3 hun
      obtain ⟨k0, k1, k2, k3⟩ := hS.cells4 1)
   | (go_at_call 62
      (with_reducible refine (all_any c t k n _ _).mono ?_)
      rintro e w3 ⟨rfl, hun⟩
      replace hS := hS.toN hun))
  go_ret
  exact ⟨rfl, Sp.u zz25⟩
end Go.Proofs.Ytcfommconnlhgaa.Gm
namespace Go.Proofs.Ytcfommconnlhgaa.Gm
open RowKit PC YtcfommconnlhgaaW.PrintWords YtcfommconnlhgaaW.PrintLast YtcfommconnlhgaaW.PrintMore Own Sl
open Bs Vp
set_option linter.unusedVariables false
set_option linter.unusedSimpArgs false
section
variable {a : Act} {s t : Nat} {v : Value}
theorem put_self (h : t < a.tmps.size) : (a.put (some t) v).eval (.tmp t) = v := by
 simp [Act.put, Act.eval, h]
theorem put_other (h : t ≠ s) : (a.put (some t) v).eval (.tmp s) = a.eval (.tmp s) := by
 simp [Act.put, Act.eval, Array.getD_eq_getD_getElem?, Array.getElem?_setIfInBounds, h]
theorem put_size : (a.put (some t) v).tmps.size = a.tmps.size := by simp [Act.put]
end
structure InvN (n : Nat) (a : Act) (p c : Int) : Prop where
 sz : a.tmps.size = n
 df : a.defers = []
 s8 : a.eval (.tmp 8) = .agg #[.int .i64 p, .int .i64 c]
 s1 : a.eval (.tmp 1) = .int .i64 c
theorem InvN.put {n : Nat} {a : Act} {p c : Int} (h : InvN n a p c) (t : Nat) (v : Value) (h8 : t ≠ 8) (h1 : t ≠ 1) : InvN n (a.put (some t) v) p c :=
 ⟨put_size.trans h.sz, h.df, (put_other h8).trans h.s8, (put_other h1).trans h.s1⟩
theorem run_eq {o : Oper} {a : Act} {w : World} {t : Nat} {p c x y : Int} (ho : o.op = .binOp .eql 111 (.tmp 8) (.tmp t) 111) (h8 : a.eval (.tmp 8) = .agg #[.int .i64 p, .int .i64 c]) (ht : a.eval (.tmp t) = .agg #[.int .i64 x, .int .i64 y]) :
 (execOp a.eval o).run Try.prog w = .ok (.value (.bool ((p == x) && (c == y)))) w := by
 have hu := Try.underlying111
 cases e1 : (p == x) <;> cases e2 : (c == y)
 all_goals
  unfold execOp
  simp only [ho, h8, ht]
  go_simp
theorem run_mk {o : Oper} {a : Act} {w : World} {x y : Int} (ho : o.op = .build 111 #[(0, .const (.int .i64 x)), (1, .const (.int .i64 y))]) :
 (execOp a.eval o).run Try.prog w = .ok (.value (.agg #[.int .i64 x, .int .i64 y])) w := by
 unfold execOp
 simp only [ho]
 kernel_rfl
theorem run_mv {o : Oper} {a : Act} {w : World} {x : Operand} {v : Value} (ho : o.op = .assign x) (hx : a.eval x = v) :
 (execOp a.eval o).run Try.prog w = .ok (.value v) w := by
 unfold execOp
 simp only [ho, hx]
 rfl
def CmpW (n : Nat) (p c : Int) (C : Code) (v : Nat) (b : Bool) : Prop :=
 ∀ (Q : Exit → Act → World → Prop) (a : Act) (w : World), InvN n a p c → (∀ a', InvN n a' p c → a'.eval (.tmp v) = .bool b → Q .normal a' w) → Code.wp Try.prog C Q a w
theorem cmp_one {n : Nat} {p c x y : Int} {id : Nat} {o1 o2 o3 : Oper} {t u v : Nat}
 (g1 : o1.guard = none := by rfl) (g2 : o2.guard = none := by rfl) (g3 : o3.guard = none := by rfl)
 (d1 : o1.dst = some t := by rfl) (d2 : o2.dst = some u := by rfl) (d3 : o3.dst = some v := by rfl)
 (e1 : o1.op = .build 111 #[(0, .const (.int .i64 x)), (1, .const (.int .i64 y))] := by rfl) (e2 : o2.op = .binOp .eql 111 (.tmp 8) (.tmp t) 111 := by rfl) (e3 : o3.op = .assign (.tmp u) := by rfl)
 (ht : t ≠ 8 ∧ t ≠ 1 ∧ t < n ∧ u ≠ 8 ∧ u ≠ 1 ∧ u < n ∧ v ≠ 8 ∧ v ≠ 1 ∧ v < n := by decide) : CmpW n p c (.region id #[o1, o2, o3] false) v ((p == x) && (c == y)) := by
 intro Q a w hI h
 refine wp_region_lit (l := [o1, o2, o3]) ?_
 refine Kd.event_run g1 (run_mk e1) ?_
 rw [d1]
 have i1 := hI.put t (.agg #[.int .i64 x, .int .i64 y]) ht.1 ht.2.1
 refine Kd.event_run g2 (run_eq e2 i1.s8 (put_self (by rw [hI.sz]; exact ht.2.2.1))) ?_
 rw [d2]
 have i2 := i1.put u (.bool ((p == x) && (c == y))) ht.2.2.2.1 ht.2.2.2.2.1
 refine Kd.event_run g3 (run_mv e3 (put_self (by rw [i1.sz]; exact ht.2.2.2.2.2.1))) ?_
 rw [d3]
 exact wpList_nil (h _ (i2.put v _ ht.2.2.2.2.2.2.1 ht.2.2.2.2.2.2.2.1) (put_self (by rw [i2.sz]; exact ht.2.2.2.2.2.2.2.2)))
theorem cmp_or {n : Nat} {p c : Int} {C1 C2 : Code} {v : Nat} {b1 b2 : Bool} (h1 : CmpW n p c C1 v b1) (h2 : CmpW n p c C2 v b2) : CmpW n p c (C1.seq (.cond (.tmp v) .skip C2)) v (b1 || b2) := by
 intro Q a w hI h
 refine wp_seq (h1 _ a w hI (fun a1 i1 hv => ?_))
 cases b1 with
 | true => exact wp_cond_true hv (wp_skip (h a1 i1 hv))
 | false => exact wp_cond_false hv (h2 Q a1 w i1 h)
theorem cmp_if {n : Nat} {p c : Int} {C A B : Code} {v : Nat} {b : Bool} (hC : CmpW n p c C v b) {Q : Exit → Act → World → Prop} {a : Act} {w : World} (hI : InvN n a p c)
 (hT : b = true → ∀ a', InvN n a' p c → Code.wp Try.prog A Q a' w) (hF : b = false → ∀ a', InvN n a' p c → Code.wp Try.prog B Q a' w) : Code.wp Try.prog (C.seq (.cond (.tmp v) A B)) Q a w := by
 refine wp_seq (hC _ a w hI (fun a1 i1 hv => ?_))
 exact wp_cond_split hv (fun ht => hT ht a1 i1) (fun hf => hF hf a1 i1)
def RN (w0 : World) (p c : Int) (e : Ending) (w' : World) : Prop := ∃ A cap, e = .returned (.tuple #[.slice A (nextG p c).1.length cap, .bool (nextG p c).2]) ∧ Sp w0 None0 [row (Kd.int .i64) 3 (.slice A (nextG p c).1.length cap) (nextG p c).1] w'
theorem end_rn {w0 : World} {p c : Int} {n : Nat} {a : Act} {w : World} {A : Option Addr} {cap : Nat} {xs : List Int} {b : Bool} (hI : InvN n a p c) (hn : nextG p c = (xs, b)) (h4 : a.eval (.tmp 4) = .slice A xs.length cap) (h5 : a.eval (.tmp 5) = .bool b)
 (hS : Sp w0 None0 [row (Kd.int .i64) 3 (.slice A xs.length cap) xs] w) : bodyPost Try.prog Try.f32 (RN w0 p c) .ret a w := by
 refine ⟨hI.df, _, results_tmp2 rfl a.tmps Try.prog w, A, cap, ?_, ?_⟩
 ·
  rw [hn]
  show Ending.returned (.tuple #[a.eval (.tmp 4), a.eval (.tmp 5)]) = _
  rw [h4, h5]
 ·
  rw [hn]; exact hS
theorem reps_ints (w : World) (xs : List Int) : Reps ((Kd.int .i64).M w 0 (fun _ => False)) (Kd.int .i64).sz xs (nums .i64 xs) := by
 induction xs with
 | nil => exact Reps.none _ _
 | cons x xs ih => exact Reps.one rfl ih
theorem leaf_c {w0 : World} {p c : Int} {n : Nat} {id : Nat} {o1 o2 o3 : Oper} {t : Nat} {xs : List Int} {b : Bool} {Q : Exit → Act → World → Prop} {a : Act} {w : World} (hI : InvN n a p c) (hS : Sp w0 None0 [] w) (hn : nextG p c = (xs, b))
 (hq : ∀ a w, bodyPost Try.prog Try.f32 (RN w0 p c) .ret a w → Q .ret a w) (hm : xs.length ≤ 100)
 (hrun : ∀ (a : Act) (w : World), (execOp a.eval o1).run Try.prog w = .ok (.value (.slice (some ⟨w.heap.size, 0, none⟩) xs.length xs.length)) (w.alloc (.cells (nums .i64 xs).toArray 3)))
 (g1 : o1.guard = none := by rfl) (g2 : o2.guard = none := by rfl) (g3 : o3.guard = none := by rfl)
 (d1 : o1.dst = some t := by rfl) (d2 : o2.dst = some 4 := by rfl) (d3 : o3.dst = some 5 := by rfl)
 (e2 : o2.op = .assign (.tmp t) := by rfl) (e3 : o3.op = .assign (.const (.bool b)) := by rfl) (ht : t ≠ 8 ∧ t ≠ 1 ∧ t < n ∧ 5 < n := by decide) : Code.wp Try.prog ((Code.region id #[o1, o2, o3] false).seq .ret) Q a w := by
 refine wp_seq (wp_region_lit (l := [o1, o2, o3]) ?_)
 refine Kd.event_run g1 (hrun a w) ?_
 rw [d1]
 have hS2 := Sp.lit (Kd.int .i64) 3 hS xs (nums .i64 xs) w.heap.size rfl (reps_ints w xs) zz4
 have i1 := hI.put t (.slice (some ⟨w.heap.size, 0, none⟩) xs.length xs.length) ht.1 ht.2.1
 refine Kd.event_run g2 (run_mv e2 (put_self (by rw [hI.sz]; exact ht.2.2.1))) ?_
 rw [d2]
 have i2 := i1.put 4 (.slice (some ⟨w.heap.size, 0, none⟩) xs.length xs.length) zz8 zz8
 refine Kd.event_run g3 (run_mv (v := .bool b) e3 rfl) ?_
 rw [d3]
 have i3 := i2.put 5 (.bool b) zz8 zz8
 refine wpList_nil (show Exit.then _ _ .normal _ _ from wp_ret (hq _ _ ?_))
 refine end_rn i3 hn ((put_other zz8).trans (put_self (by rw [i1.sz]; omega))) (put_self (by rw [i2.sz]; exact ht.2.2.2)) hS2
theorem leaf_g {w0 : World} {p c : Int} {n : Nat} {id : Nat} {o1 o2 o3 o4 o5 : Oper} {t u v : Nat} {xs : List Int} {Q : Exit → Act → World → Prop} {a : Act} {w : World} (hI : InvN n a p c) (hS : Sp w0 None0 [] w) (hn : nextG p c = (xs, decide (0 < c)))
 (hq : ∀ a w, bodyPost Try.prog Try.f32 (RN w0 p c) .ret a w → Q .ret a w) (hm : xs.length ≤ 100)
 (hrun : ∀ (a : Act) (w : World), (execOp a.eval o1).run Try.prog w = .ok (.value (.slice (some ⟨w.heap.size, 0, none⟩) xs.length xs.length)) (w.alloc (.cells (nums .i64 xs).toArray 3)))
 (hmv : ∀ (a : Act) (w : World), (execOp a.eval o2).run Try.prog w = .ok (.value (a.eval (.tmp 1))) w)
 (hgt : ∀ (a : Act) (w : World), a.eval (.tmp u) = .int .i64 c → (execOp a.eval o3).run Try.prog w = .ok (.value (.bool (decide (0 < c)))) w)
 (g1 : o1.guard = none := by rfl) (g2 : o2.guard = none := by rfl) (g3 : o3.guard = none := by rfl) (g4 : o4.guard = none := by rfl) (g5 : o5.guard = none := by rfl)
 (d1 : o1.dst = some t := by rfl) (d2 : o2.dst = some u := by rfl) (d3 : o3.dst = some v := by rfl) (d4 : o4.dst = some 4 := by rfl) (d5 : o5.dst = some 5 := by rfl)
 (e4 : o4.op = .assign (.tmp t) := by rfl) (e5 : o5.op = .assign (.tmp v) := by rfl) (ht : t ≠ 8 ∧ t ≠ 1 ∧ t < n ∧ 5 < n := by decide) (ht2 : u ≠ 8 ∧ u ≠ 1 ∧ u < n ∧ v ≠ 8 ∧ v ≠ 1 ∧ v < n ∧ u ≠ t ∧ v ≠ t ∧ 4 ≠ v := by decide) : Code.wp Try.prog ((Code.region id #[o1, o2, o3, o4, o5] false).seq .ret) Q a w := by
 refine wp_seq (wp_region_lit (l := [o1, o2, o3, o4, o5]) ?_)
 refine Kd.event_run g1 (hrun a w) ?_
 rw [d1]
 have hS2 := Sp.lit (Kd.int .i64) 3 hS xs (nums .i64 xs) w.heap.size rfl (reps_ints w xs) zz4
 have i1 := hI.put t (.slice (some ⟨w.heap.size, 0, none⟩) xs.length xs.length) ht.1 ht.2.1
 refine Kd.event_run g2 (hmv _ _) ?_
 rw [d2, i1.s1]
 have i2 := i1.put u (.int .i64 c) ht2.1 ht2.2.1
 refine Kd.event_run g3 (hgt _ _ (put_self (by rw [i1.sz]; exact ht2.2.2.1))) ?_
 rw [d3]
 have i3 := i2.put v (.bool (decide (0 < c))) ht2.2.2.2.1 ht2.2.2.2.2.1
 refine Kd.event_run g4 (run_mv (v := .slice (some ⟨w.heap.size, 0, none⟩) xs.length xs.length) e4 ?_) ?_
 ·
  exact (put_other ht2.2.2.2.2.2.2.2.1).trans ((put_other ht2.2.2.2.2.2.2.1).trans (put_self (by rw [hI.sz]; exact ht.2.2.1)))
 rw [d4]
 have i4 := i3.put 4 (.slice (some ⟨w.heap.size, 0, none⟩) xs.length xs.length) zz8 zz8
 refine Kd.event_run g5 (run_mv (v := .bool (decide (0 < c))) e5 ?_) ?_
 ·
  exact (put_other ht2.2.2.2.2.2.2.2.2).trans (put_self (by rw [i2.sz]; exact ht2.2.2.2.2.2.1))
 rw [d5]
 have i5 := i4.put 5 (.bool (decide (0 < c))) zz8 zz8
 refine wpList_nil (show Exit.then _ _ .normal _ _ from wp_ret (hq _ _ ?_))
 refine end_rn i5 hn ((put_other zz8).trans (put_self (by rw [i3.sz]; omega))) (put_self (by rw [i4.sz]; exact ht.2.2.2)) hS2
end Go.Proofs.Ytcfommconnlhgaa.Gm
namespace Go.Proofs.Ytcfommconnlhgaa.Gm
open RowKit PC YtcfommconnlhgaaW.PrintWords YtcfommconnlhgaaW.PrintLast YtcfommconnlhgaaW.PrintMore Own Sl
open Bs Vp
set_option linter.unusedVariables false
set_option linter.unusedSimpArgs false
section
variable {p c x y z u s t : Int}
theorem two_eq (h : ((p == x) && (c == y)) = true) : p = x ∧ c = y := by simpa using h
theorem two_ne (h : ((p == x) && (c == y)) = false) : ¬ (p = x ∧ c = y) := fun ⟨h1, h2⟩ => by subst h1 h2; simp at h
theorem or_eq (h : (((p == x) && (c == y)) || ((p == z) && (c == u))) = true) : (p = x ∧ c = y) ∨ (p = z ∧ c = u) := by simpa using h
theorem or_ne (h : (((p == x) && (c == y)) || ((p == z) && (c == u))) = false) : ¬ (p = x ∧ c = y) ∧ ¬ (p = z ∧ c = u) := by
 rw [Bool.or_eq_false_iff] at h
 exact ⟨two_ne h.1, two_ne h.2⟩
theorem or3_eq (h : (((p == x) && (c == y)) || (((p == z) && (c == u)) || ((p == s) && (c == t)))) = true) : (p = x ∧ c = y) ∨ (p = z ∧ c = u) ∨ (p = s ∧ c = t) := by simpa using h
theorem or3_ne (h : (((p == x) && (c == y)) || (((p == z) && (c == u)) || ((p == s) && (c == t)))) = false) : ¬ (p = x ∧ c = y) ∧ ¬ (p = z ∧ c = u) ∧ ¬ (p = s ∧ c = t) := by
 rw [Bool.or_eq_false_iff] at h
 exact ⟨two_ne h.1, or_ne h.2⟩
end
theorem run_gt {o : Oper} {a : Act} {w : World} {u : Nat} {c : Int} (ho : o.op = .binOp .gtr 3 (.tmp u) (.const (.int .i64 0)) 3) (hu : a.eval (.tmp u) = .int .i64 c) :
 (execOp a.eval o).run Try.prog w = .ok (.value (.bool (decide (0 < c)))) w := by
 unfold execOp
 simp only [ho, hu]
 go_simp
theorem n0 {c : Int} (a0 : ¬ c = 0) : nextG 0 c = ([], true) := by
 show (if c = 0 then ([1], false) else ([], true)) = _
 rw [if_neg a0]
theorem n1 {c : Int} (a0 : ¬ c = 0) (a2 : ¬ c = 2) (a4 : ¬ c = 4) : nextG 1 c = ([], true) := by
 show (if c = 0 then ([2], false) else (if c = 2 then ([4], false) else (if c = 4 then ([22], false) else ([], true)))) = _
 rw [if_neg a0, if_neg a2, if_neg a4]
theorem n2 {c : Int} (a0 : ¬ c = 0) (a3 : ¬ c = 3) (a4 : ¬ c = 4) (a7 : ¬ c = 7) (a11 : ¬ c = 11) (a12 : ¬ c = 12) (a13 : ¬ c = 13) : nextG 2 c = ([], true) := by
 show (if c = 0 then ([3, 4], false) else (if c = 3 then ([4], false) else (if c = 4 then ([7], false) else (if c = 7 then ([11], false) else (if c = 11 then ([12, 13, 21], true) else (if c = 12 then ([13, 21], true) else (if c = 13 then ([21], true) else ([], true)))))))) = _
 rw [if_neg a0, if_neg a3, if_neg a4, if_neg a7, if_neg a11, if_neg a12, if_neg a13]
theorem n4 {c : Int} (a0 : ¬ c = 0) (a5 : ¬ c = 5) : nextG 4 c = ([], true) := by
 show (if c = 0 then ([5], false) else (if c = 5 then ([6], true) else ([], true))) = _
 rw [if_neg a0, if_neg a5]
theorem n6 {c : Int} (a0 : ¬ c = 0) (a6 : ¬ c = 6) : nextG 6 c = ([], true) := by
 show (if c = 0 ∨ c = 6 then ([6], true) else ([], true)) = _
 rw [if_neg zz4]
theorem n7 {c : Int} (a0 : ¬ c = 0) (a8 : ¬ c = 8) : nextG 7 c = ([], true) := by
 show (if c = 0 ∨ c = 8 then ([8], true) else ([], true)) = _
 rw [if_neg zz4]
theorem n8 {c : Int} (a0 : ¬ c = 0) (a9 : ¬ c = 9) : nextG 8 c = ([], true) := by
 show (if c = 0 then ([9], false) else (if c = 9 then ([9], true) else ([], true))) = _
 rw [if_neg a0, if_neg a9]
theorem n9 {c : Int} (a0 : ¬ c = 0) (a5 : ¬ c = 5) : nextG 9 c = ([], true) := by
 show (if c = 0 then ([5], false) else (if c = 5 then ([10], false) else ([], true))) = _
 rw [if_neg a0, if_neg a5]
theorem n13 {c : Int} (a0 : ¬ c = 0) (a14 : ¬ c = 14) : nextG 13 c = ([], true) := by
 show (if c = 0 then ([14], false) else (if c = 14 then ([14], true) else ([], true))) = _
 rw [if_neg a0, if_neg a14]
theorem n14 {c : Int} (a0 : ¬ c = 0) (a15 : ¬ c = 15) (a16 : ¬ c = 16) : nextG 14 c = ([], true) := by
 show (if c = 0 then ([15], false) else (if c = 15 then ([16], false) else (if c = 16 then ([17], true) else ([], true)))) = _
 rw [if_neg a0, if_neg a15, if_neg a16]
theorem n17 {c : Int} (a0 : ¬ c = 0) (a18 : ¬ c = 18) : nextG 17 c = ([], true) := by
 show (if c = 0 then ([18], false) else (if c = 18 then ([18], true) else ([], true))) = _
 rw [if_neg a0, if_neg a18]
theorem n18 {c : Int} (a0 : ¬ c = 0) (a5 : ¬ c = 5) (a19 : ¬ c = 19) : nextG 18 c = ([], true) := by
 show (if c = 0 then ([5], false) else (if c = 5 then ([19, 20], false) else (if c = 19 then ([20], false) else ([], true)))) = _
 rw [if_neg a0, if_neg a5, if_neg a19]
theorem n21 {c : Int} (a0 : ¬ c = 0) : nextG 21 c = ([], true) := by
 show (if c = 0 then ([17], false) else ([], true)) = _
 rw [if_neg a0]
theorem nx {p c : Int} (e0 : ¬ p = 0) (e1 : ¬ p = 1) (e2 : ¬ p = 2) (e4 : ¬ p = 4) (e6 : ¬ p = 6) (e7 : ¬ p = 7) (e8 : ¬ p = 8) (e9 : ¬ p = 9) (e13 : ¬ p = 13) (e14 : ¬ p = 14) (e17 : ¬ p = 17) (e18 : ¬ p = 18) (e21 : ¬ p = 21) : nextG p c = ([], true) := by
 unfold nextG
 rw [if_neg e0, if_neg e1, if_neg e2, if_neg e4, if_neg e6, if_neg e7, if_neg e8, if_neg e9, if_neg e13, if_neg e14, if_neg e17, if_neg e18, if_neg e21]
theorem frame_any {n : Nat} {p c : Int} {C : Code} {Q : Exit → Act → World → Prop} {a : Act} {w : World} (h : ∀ a, InvN n a p c → Code.wp Try.prog C Q a w) (hI : InvN n a p c) : Code.wp Try.prog C Q a w := h a hI
set_option maxHeartbeats 8000000 in
set_option maxRecDepth 100000 in
theorem next_any (p c : Int) (w : World) : Calls Try.prog 32 #[.int .i64 p, .int .i64 c] w (RN w p c) := by
 have hS := Sp.nil (w := w) (S := None0)
 go_enter Try.func32, Try.ntmps32
 go_upto_block 0 with (fail)
 rename_i K hK
 refine wp_block (frame_any (n := 129) (p := p) (c := c) (fun a hI => ?_) ⟨rfl, rfl, rfl, rfl⟩)
 refine cmp_if cmp_one hI (fun hT a hI => ?_) (fun f0 a hI => ?_)
 ·
  obtain ⟨rfl, rfl⟩ := two_eq hT
  exact leaf_c hI hS rfl (fun _ _ h => h) zz8 (fun _ _ => by kernel_rfl)
 replace f0 := Aside0.mk (two_ne f0)
 refine cmp_if cmp_one hI (fun hT a hI => ?_) (fun f1 a hI => ?_)
 ·
  obtain ⟨rfl, rfl⟩ := two_eq hT
  exact leaf_c hI hS rfl (fun _ _ h => h) zz8 (fun _ _ => by kernel_rfl)
 replace f1 := Aside0.mk (two_ne f1)
 refine cmp_if cmp_one hI (fun hT a hI => ?_) (fun f2 a hI => ?_)
 ·
  obtain ⟨rfl, rfl⟩ := two_eq hT
  exact leaf_c hI hS rfl (fun _ _ h => h) zz8 (fun _ _ => by kernel_rfl)
 replace f2 := Aside0.mk (two_ne f2)
 refine cmp_if cmp_one hI (fun hT a hI => ?_) (fun f3 a hI => ?_)
 ·
  obtain ⟨rfl, rfl⟩ := two_eq hT
  exact leaf_c hI hS rfl (fun _ _ h => h) zz8 (fun _ _ => by kernel_rfl)
 replace f3 := Aside0.mk (two_ne f3)
 refine cmp_if cmp_one hI (fun hT a hI => ?_) (fun f4 a hI => ?_)
 ·
  obtain ⟨rfl, rfl⟩ := two_eq hT
  exact leaf_c hI hS rfl (fun _ _ h => h) zz8 (fun _ _ => by kernel_rfl)
 replace f4 := Aside0.mk (two_ne f4)
 refine cmp_if cmp_one hI (fun hT a hI => ?_) (fun f5 a hI => ?_)
 ·
  obtain ⟨rfl, rfl⟩ := two_eq hT
  exact leaf_c hI hS rfl (fun _ _ h => h) zz8 (fun _ _ => by kernel_rfl)
 replace f5 := Aside0.mk (two_ne f5)
 refine cmp_if cmp_one hI (fun hT a hI => ?_) (fun f6 a hI => ?_)
 ·
  obtain ⟨rfl, rfl⟩ := two_eq hT
  exact leaf_c hI hS rfl (fun _ _ h => h) zz8 (fun _ _ => by kernel_rfl)
 replace f6 := Aside0.mk (two_ne f6)
 refine cmp_if cmp_one hI (fun hT a hI => ?_) (fun f7 a hI => ?_)
 ·
  obtain ⟨rfl, rfl⟩ := two_eq hT
  exact leaf_c hI hS rfl (fun _ _ h => h) zz8 (fun _ _ => by kernel_rfl)
 replace f7 := Aside0.mk (two_ne f7)
 refine cmp_if cmp_one hI (fun hT a hI => ?_) (fun f8 a hI => ?_)
 ·
  obtain ⟨rfl, rfl⟩ := two_eq hT
  exact leaf_c hI hS rfl (fun _ _ h => h) zz8 (fun _ _ => by kernel_rfl)
 replace f8 := Aside0.mk (two_ne f8)
 refine cmp_if cmp_one hI (fun hT a hI => ?_) (fun f9 a hI => ?_)
 ·
  obtain ⟨rfl, rfl⟩ := two_eq hT
  exact leaf_c hI hS rfl (fun _ _ h => h) zz8 (fun _ _ => by kernel_rfl)
 replace f9 := Aside0.mk (two_ne f9)
 refine cmp_if (cmp_or cmp_one (cmp_or cmp_one cmp_one)) hI (fun hT a hI => ?_) (fun f10 a hI => ?_)
 ·
  rcases or3_eq hT with ⟨rfl, rfl⟩ | ⟨rfl, rfl⟩ | ⟨rfl, rfl⟩
  all_goals exact leaf_c hI hS rfl (fun _ _ h => h) zz8 (fun _ _ => by kernel_rfl)
 replace f10 := Aside0.mk (or3_ne f10)
 refine cmp_if cmp_one hI (fun hT a hI => ?_) (fun f11 a hI => ?_)
 ·
  obtain ⟨rfl, rfl⟩ := two_eq hT
  exact leaf_c hI hS rfl (fun _ _ h => h) zz8 (fun _ _ => by kernel_rfl)
 replace f11 := Aside0.mk (two_ne f11)
 refine cmp_if (cmp_or cmp_one cmp_one) hI (fun hT a hI => ?_) (fun f12 a hI => ?_)
 ·
  rcases or_eq hT with ⟨rfl, rfl⟩ | ⟨rfl, rfl⟩
  all_goals exact leaf_c hI hS rfl (fun _ _ h => h) zz8 (fun _ _ => by kernel_rfl)
 replace f12 := Aside0.mk (or_ne f12)
 refine cmp_if (cmp_or cmp_one cmp_one) hI (fun hT a hI => ?_) (fun f13 a hI => ?_)
 ·
  rcases or_eq hT with ⟨rfl, rfl⟩ | ⟨rfl, rfl⟩
  all_goals exact leaf_c hI hS rfl (fun _ _ h => h) zz8 (fun _ _ => by kernel_rfl)
 replace f13 := Aside0.mk (or_ne f13)
 refine cmp_if (cmp_or cmp_one cmp_one) hI (fun hT a hI => ?_) (fun f14 a hI => ?_)
 ·
  rcases or_eq hT with ⟨rfl, rfl⟩ | ⟨rfl, rfl⟩
  all_goals exact leaf_g hI hS rfl (fun _ _ h => h) zz8 (fun _ _ => by kernel_rfl) (fun _ _ => rfl) (fun a w hu => run_gt rfl hu)
 replace f14 := Aside0.mk (or_ne f14)
 refine cmp_if cmp_one hI (fun hT a hI => ?_) (fun f15 a hI => ?_)
 ·
  obtain ⟨rfl, rfl⟩ := two_eq hT
  exact leaf_c hI hS rfl (fun _ _ h => h) zz8 (fun _ _ => by kernel_rfl)
 replace f15 := Aside0.mk (two_ne f15)
 refine cmp_if (cmp_or cmp_one cmp_one) hI (fun hT a hI => ?_) (fun f16 a hI => ?_)
 ·
  rcases or_eq hT with ⟨rfl, rfl⟩ | ⟨rfl, rfl⟩
  all_goals exact leaf_g hI hS rfl (fun _ _ h => h) zz8 (fun _ _ => by kernel_rfl) (fun _ _ => rfl) (fun a w hu => run_gt rfl hu)
 replace f16 := Aside0.mk (or_ne f16)
 refine cmp_if cmp_one hI (fun hT a hI => ?_) (fun f17 a hI => ?_)
 ·
  obtain ⟨rfl, rfl⟩ := two_eq hT
  exact leaf_c hI hS rfl (fun _ _ h => h) zz8 (fun _ _ => by kernel_rfl)
 replace f17 := Aside0.mk (two_ne f17)
 refine cmp_if cmp_one hI (fun hT a hI => ?_) (fun f18 a hI => ?_)
 ·
  obtain ⟨rfl, rfl⟩ := two_eq hT
  exact leaf_c hI hS rfl (fun _ _ h => h) zz8 (fun _ _ => by kernel_rfl)
 replace f18 := Aside0.mk (two_ne f18)
 refine cmp_if cmp_one hI (fun hT a hI => ?_) (fun f19 a hI => ?_)
 ·
  obtain ⟨rfl, rfl⟩ := two_eq hT
  exact leaf_c hI hS rfl (fun _ _ h => h) zz8 (fun _ _ => by kernel_rfl)
 replace f19 := Aside0.mk (two_ne f19)
 refine cmp_if (cmp_or cmp_one cmp_one) hI (fun hT a hI => ?_) (fun f20 a hI => ?_)
 ·
  rcases or_eq hT with ⟨rfl, rfl⟩ | ⟨rfl, rfl⟩
  all_goals exact leaf_g hI hS rfl (fun _ _ h => h) zz8 (fun _ _ => by kernel_rfl) (fun _ _ => rfl) (fun a w hu => run_gt rfl hu)
 replace f20 := Aside0.mk (or_ne f20)
 refine cmp_if cmp_one hI (fun hT a hI => ?_) (fun f21 a hI => ?_)
 ·
  obtain ⟨rfl, rfl⟩ := two_eq hT
  exact leaf_c hI hS rfl (fun _ _ h => h) zz8 (fun _ _ => by kernel_rfl)
 replace f21 := Aside0.mk (two_ne f21)
 refine cmp_if cmp_one hI (fun hT a hI => ?_) (fun f22 a hI => ?_)
 ·
  obtain ⟨rfl, rfl⟩ := two_eq hT
  exact leaf_c hI hS rfl (fun _ _ h => h) zz8 (fun _ _ => by kernel_rfl)
 replace f22 := Aside0.mk (two_ne f22)
 refine cmp_if cmp_one hI (fun hT a hI => ?_) (fun f23 a hI => ?_)
 ·
  obtain ⟨rfl, rfl⟩ := two_eq hT
  exact leaf_c hI hS rfl (fun _ _ h => h) zz8 (fun _ _ => by kernel_rfl)
 replace f23 := Aside0.mk (two_ne f23)
 refine cmp_if cmp_one hI (fun hT a hI => ?_) (fun f24 a hI => ?_)
 ·
  obtain ⟨rfl, rfl⟩ := two_eq hT
  exact leaf_c hI hS rfl (fun _ _ h => h) zz8 (fun _ _ => by kernel_rfl)
 replace f24 := Aside0.mk (two_ne f24)
 have hn : nextG p c = ([], true) := by
  clear hK hI hS
  by_cases e0 : p = 0
  ·
   subst e0
   exact n0 (fun h => f24.out ⟨rfl, h⟩)
  by_cases e1 : p = 1
  ·
   subst e1
   exact n1 (fun h => f0.out ⟨rfl, h⟩) (fun h => f1.out ⟨rfl, h⟩) (fun h => f2.out ⟨rfl, h⟩)
  by_cases e2 : p = 2
  ·
   subst e2
   exact n2 (fun h => f3.out ⟨rfl, h⟩) (fun h => f4.out ⟨rfl, h⟩) (fun h => f5.out ⟨rfl, h⟩) (fun h => f6.out ⟨rfl, h⟩) (fun h => f7.out ⟨rfl, h⟩) (fun h => f8.out ⟨rfl, h⟩) (fun h => f9.out ⟨rfl, h⟩)
  by_cases e4 : p = 4
  ·
   subst e4
   exact n4 (fun h => f10.out.1 ⟨rfl, h⟩) (fun h => f11.out ⟨rfl, h⟩)
  by_cases e6 : p = 6
  ·
   subst e6
   exact n6 (fun h => f12.out.1 ⟨rfl, h⟩) (fun h => f12.out.2 ⟨rfl, h⟩)
  by_cases e7 : p = 7
  ·
   subst e7
   exact n7 (fun h => f13.out.1 ⟨rfl, h⟩) (fun h => f13.out.2 ⟨rfl, h⟩)
  by_cases e8 : p = 8
  ·
   subst e8
   exact n8 (fun h => f14.out.1 ⟨rfl, h⟩) (fun h => f14.out.2 ⟨rfl, h⟩)
  by_cases e9 : p = 9
  ·
   subst e9
   exact n9 (fun h => f10.out.2.1 ⟨rfl, h⟩) (fun h => f15.out ⟨rfl, h⟩)
  by_cases e13 : p = 13
  ·
   subst e13
   exact n13 (fun h => f16.out.1 ⟨rfl, h⟩) (fun h => f16.out.2 ⟨rfl, h⟩)
  by_cases e14 : p = 14
  ·
   subst e14
   exact n14 (fun h => f17.out ⟨rfl, h⟩) (fun h => f18.out ⟨rfl, h⟩) (fun h => f19.out ⟨rfl, h⟩)
  by_cases e17 : p = 17
  ·
   subst e17
   exact n17 (fun h => f20.out.1 ⟨rfl, h⟩) (fun h => f20.out.2 ⟨rfl, h⟩)
  by_cases e18 : p = 18
  ·
   subst e18
   exact n18 (fun h => f10.out.2.2 ⟨rfl, h⟩) (fun h => f21.out ⟨rfl, h⟩) (fun h => f22.out ⟨rfl, h⟩)
  by_cases e21 : p = 21
  ·
   subst e21
   exact n21 (fun h => f23.out ⟨rfl, h⟩)
  exact nx e0 e1 e2 e4 e6 e7 e8 e9 e13 e14 e17 e18 e21
 refine wp_skip (hK _ _ (wp_seq (wp_region_lit (l := [_, _]) ?_)))
 refine Kd.event_run rfl (run_mv (v := .slice none 0 0) rfl rfl) ?_
 refine Kd.event_run rfl (run_mv (v := .bool true) rfl rfl) ?_
 refine wpList_nil (show Exit.then _ _ .normal _ _ from wp_ret ?_)
 have i1 := hI.put 4 (.slice none 0 0) zz8 zz8
 have i2 := i1.put 5 (.bool true) zz8 zz8
 exact end_rn i2 hn ((put_other zz8).trans (put_self (by rw [hI.sz]; decide))) (put_self (by rw [i1.sz]; decide)) (hS.nilrow (Kd.int .i64) 3)
end Go.Proofs.Ytcfommconnlhgaa.Gm
namespace Go.Proofs.Ytcfommconnlhgaa.Sl
open RowKit YtcfommconnlhgaaW.PrintWords YtcfommconnlhgaaW.PrintLast YtcfommconnlhgaaW.PrintMore Own
set_option linter.unusedVariables false
def Nty (e : Nat) (w : World) (k : Nat) : Prop := ∃ cs t, t ≠ e ∧ w.heap[k]? = some (.cells cs t (0, 0))
def NT (e : Nat) (a : Ast) : Prop := ∀ (w : World) (S : Nat → Prop), a.P w S → a.P w (fun k => S k ∧ Nty e w k)
theorem NT.blk {e g t : Nat} {cs : Array Value} (ht : t ≠ e) : NT e (blk g cs t) := fun w S h => ⟨⟨h.1, cs, t, ht, h.2⟩, h.2⟩
theorem NT.pu {e : Nat} {p : Prop} : NT e (pu p) := fun w S h => h
theorem NT.ex {e : Nat} {α : Type} {f : α → Ast} (h : ∀ x, NT e (f x)) : NT e (ex f) := fun w S ⟨x, hx⟩ => ⟨x, h x w S hx⟩
theorem NT.row {e : Nat} {α : Type} {d : Kd α} {q : Nat} {v : Value} {xs : List α} (hq : ∀ t, t ∈ q :: d.E → t ≠ e) : NT e (row d q v xs) := fun w S h =>
 Kd.R_mono (Kd.R_bound h) (fun k hk => ⟨hk.1, by obtain ⟨t, ht, cs, hc⟩ := hk.2.2.2; exact ⟨cs, t, hq t ht, hc⟩⟩)
open Classical in
theorem Hs.nt {e : Nat} {l : List Ast} (hl : ∀ a, a ∈ l → NT e a) {w : World} {S : Nat → Prop} (h : Hs w S l) : Hs w (fun k => S k ∧ Nty e w k) l := by
 obtain ⟨own, h1, h2⟩ := h
 refine ⟨fun k => if Nty e w k then own k else 0, fun k hk => ?_, fun i a ha => ?_⟩
 ·
  dsimp only at hk
  by_cases h5 : Nty e w k
  ·
   rw [if_pos h5] at hk; exact ⟨h1 k hk, h5⟩
  ·
   rw [if_neg h5] at hk; exact absurd rfl hk
 ·
  refine a.mo (hl a (List.mem_of_getElem? ha) w _ (h2 i a ha)) (fun k hk => ?_)
  show (if Nty e w k then own k else 0) = i + 1
  rw [if_pos hk.2]; exact hk.1
theorem NT.sep {e : Nat} {l : List Ast} (hl : ∀ a, a ∈ l → NT e a) : NT e (sep l) := fun w S h => Hs.nt hl h
theorem NT.two {e : Nat} {a b : Ast} (ha : NT e a) (hb : NT e b) : NT e (Sl.sep [a, b]) := NT.sep (fun x hx => by
 rcases List.mem_cons.1 hx with rfl | hx
 ·
  exact ha
 ·
  obtain rfl := List.mem_singleton.1 hx
  exact hb)
end Go.Proofs.Ytcfommconnlhgaa.Sl
namespace Go.Proofs.Ytcfommconnlhgaa.Gm
open RowKit PC YtcfommconnlhgaaW.PrintWords YtcfommconnlhgaaW.PrintLast YtcfommconnlhgaaW.PrintMore Own Sl
open Bs Vp
set_option linter.unusedVariables false
set_option linter.unusedSimpArgs false
def kF : Kd (Int × Int) := Kd.pair (Kd.int .i64) (Kd.int .i64)
theorem kF_open {w : World} {x : Int × Int} {cs : List Value} (h : kF.K w x cs) : cs = [.int .i64 x.1, .int .i64 x.2] := by
 obtain ⟨_, _, rfl, rfl, rfl⟩ := h
 rfl
theorem kF_openM {w : World} {base : Nat} {ok : Nat → Prop} {x : Int × Int} {cs : List Value} (h : kF.M w base ok x cs) : cs = [.int .i64 x.1, .int .i64 x.2] := by
 obtain ⟨_, _, rfl, rfl, rfl⟩ := h
 rfl
theorem kF_mkM (w : World) (base : Nat) (ok : Nat → Prop) (x : Int × Int) : kF.M w base ok x [.int .i64 x.1, .int .i64 x.2] := ⟨[.int .i64 x.1], [.int .i64 x.2], rfl, rfl, rfl⟩
theorem at_F {w : World} {A : Option Addr} {n : Nat} {xs : List (Int × Int)} (h : kF.C w A n xs) (i : Nat) (h1 : i < n) :
 ∃ ad, A = some ad ∧ w.cell? (ad.add (i * 2)) = some (.int .i64 (xs.getD i (0, 0)).1) ∧ w.cell? ⟨(ad.add (i * 2)).block, (ad.add (i * 2)).off + 1, none⟩ = some (.int .i64 (xs.getD i (0, 0)).2) := by
 obtain ⟨ad, c, e, _, hK, hc0⟩ := Kd.C_get h ((0, 0) : Int × Int) (i : Int) zz4 zz4
 have hc : ∀ j u, c[j]? = some u → w.cell? (ad.add ((i : Int).toNat * 2 + j)) = some u := hc0
 rw [Int.toNat_natCast] at hc
 obtain rfl := kF_open hK
 exact ⟨ad, e, hc 0 _ rfl, by rw [← add_field _ _ 1 zz4]; exact hc 1 _ rfl⟩
theorem take2_set {α : Type} (l : List α) (j i : Nat) (v : α) (h : i ≠ j) : ((l.set (j * 2 + 1) v).drop (i * 2)).take 2 = (l.drop (i * 2)).take 2 := by
 apply List.ext_getElem?
 intro k
 rw [List.getElem?_take, List.getElem?_take]
 split
 ·
  rw [List.getElem?_drop, List.getElem?_drop, List.getElem?_set_ne zz4]
 ·
  rfl
theorem take2_same {α : Type} (l : List α) (j : Nat) (v a b : α) (h : (l.drop (j * 2)).take 2 = [a, b]) : ((l.set (j * 2 + 1) v).drop (j * 2)).take 2 = [a, v] := by
 have hl : j * 2 + 1 < l.length := by
  have := congrArg List.length h
  simp at this; omega
 apply List.ext_getElem?
 intro k
 rw [List.getElem?_take]
 have h0 : l[j * 2]? = some a := by
  have := congrArg (fun q => q[0]?) h
  rw [List.getElem?_take, if_pos zz8, List.getElem?_drop] at this
  exact this
 match k with
 | 0 => rw [if_pos zz8, List.getElem?_drop, List.getElem?_set_ne zz4]; exact h0
 | 1 => rw [if_pos zz8, List.getElem?_drop, List.getElem?_set_self zz4]; rfl
 | k + 2 => rw [if_neg zz4]; rfl
theorem F_put {e g n c j : Nat} {w : World} {S : Nat → Prop} {xs : List (Int × Int)} (h : kF.R e w 0 S (.slice (some ⟨g, 0, none⟩) n c) xs) (hj : j < xs.length) (v : Int) :
 kF.R e (w.setCell ⟨g, j * 2 + 1, none⟩ (.int .i64 v)) 0 S (.slice (some ⟨g, 0, none⟩) n c) (xs.set j ((xs.getD j (0, 0)).1, v)) ∧ w.grownBy (w.setCell ⟨g, j * 2 + 1, none⟩ (.int .i64 v)) (some g) := by
 have hn := (Kd.R_reads' h).1
 subst hn
 obtain ⟨h0, inner, ho, hr⟩ := h
 have ho : w.ownsRow 0 e 2 (.slice (some ⟨g, 0, none⟩) xs.length c) xs.length inner := ho
 have hs := ho.stored (j * 2 + 1) (.int .i64 v)
 refine ⟨⟨h0, inner.set (j * 2 + 1) (.int .i64 v), ?_, ?_, fun i p hp => ?_⟩, hs.2⟩
 ·
  rw [List.length_set]; exact hs.1
 ·
  rw [List.length_set, List.length_set]; exact hr.1
 ·
  rw [List.getElem?_set] at hp
  split at hp
  ·
   rename_i hij
   subst hij
   try rw [if_pos hj] at hp
   cases hp
   have hx : xs[j]? = some (xs.getD j (0, 0)) := by rw [List.getD_eq_getElem?_getD, List.getElem?_eq_getElem hj]; rfl
   have := kF_openM (hr.2 j _ hx)
   show kF.M _ _ _ _ ((List.drop (j * 2) (inner.set (j * 2 + 1) (.int .i64 v))).take 2)
   rw [take2_same inner j (.int .i64 v) _ _ this]
   exact kF_mkM _ _ _ _
  ·
   rename_i hij
   have := kF_openM (hr.2 i p hp)
   show kF.M _ _ _ _ ((List.drop (i * 2) (inner.set (j * 2 + 1) (.int .i64 v))).take 2)
   rw [take2_set inner j i (.int .i64 v) (fun e => hij e.symm)]
   show kF.M _ _ _ _ ((inner.drop (i * kF.sz)).take kF.sz)
   rw [this]
   exact kF_mkM _ _ _ _
theorem Sp.fset {e g n c j : Nat} {w0 w : World} {S0 : Nat → Prop} {l : List Ast} {xs : List (Int × Int)} (h : Sp w0 S0 l w) (i : Nat) (hi : l[i]? = some (Sl.row kF e (.slice (some ⟨g, 0, none⟩) n c) xs)) (hj : j < xs.length) (v : Int) :
 Sp w0 S0 (l.set i (Sl.row kF e (.slice (some ⟨g, 0, none⟩) n c) (xs.set j ((xs.getD j (0, 0)).1, v)))) (w.setCell ⟨g, j * 2 + 1, none⟩ (.int .i64 v)) := by
 obtain ⟨T, hT, hb⟩ := h.opn i _ hi
 have hp := F_put hT hj v
 have hg : T g := hT.1 g rfl
 exact hb _ _ (fun k => k = g) (fun k hk => by rw [hk]; exact hg) (Upd.grown hp.2 (fun k hk => by cases hk; rfl)) (row_mono hp.1 (fun k hk => .inl hk))
def gk (g : Nat) : Option Gs → Ast
 | some s => ex fun q : Option Addr × Nat => sep [blk g #[.slice q.1 s.st.reverse.length q.2, .int .i64 s.leaf, .bool s.ver, .bool false] 54, row kF 90 (.slice q.1 s.st.reverse.length q.2) s.st.reverse]
 | none => ex fun q : Value × Int × Bool => sep [blk g #[q.1, .int .i64 q.2.1, .bool q.2.2, .bool true] 54]
end Go.Proofs.Ytcfommconnlhgaa.Gm
namespace Go.Proofs.Ytcfommconnlhgaa.Gm
open RowKit PC YtcfommconnlhgaaW.PrintWords YtcfommconnlhgaaW.PrintLast YtcfommconnlhgaaW.PrintMore Own Sl
open Bs Vp
set_option linter.unusedVariables false
set_option linter.unusedSimpArgs false
theorem find_none {α : Type} (f : α → Bool) : ∀ (l : List α), (∀ x ∈ l, f x = false) → l.find? f = none
 | [], _ => rfl
 | x :: l, h => by
   rw [List.find?_cons_of_neg (by rw [h x zz19]; decide)]
   exact find_none f l (fun y hy => h y (by simp [hy]))
theorem find_at {α : Type} (f : α → Bool) (p : α) (hp : f p = true) : ∀ (l : List α) (i : Nat), (∀ x ∈ l.take i, f x = false) → l[i]? = some p → l.find? f = some p
 | [], i, _, h => by simp at h
 | x :: l, 0, _, h => by
   obtain rfl : x = p := by simpa using h
   exact List.find?_cons_of_pos hp
 | x :: l, i + 1, hb, h => by
   rw [List.find?_cons_of_neg (by rw [hb x zz19]; decide)]
   exact find_at f p hp l i (fun y hy => hb y (by simp [hy])) (by simpa using h)
theorem head_none {ver : Bool} {tp tc : Int} {h : Hd} (hn : ∀ x ∈ (nextG tp tc).1, elemG x h = false) : headG ver (tp, tc) h = 0 := by
 unfold headG
 rw [find_none (fun p => elemG p h) _ hn]
theorem head_some {ver : Bool} {tp tc : Int} {h : Hd} {i : Nat} {p : Int} (hb : ∀ x ∈ (nextG tp tc).1.take i, elemG x h = false) (hi : (nextG tp tc).1[i]? = some p) (hp : elemG p h = true) :
 headG ver (tp, tc) h = if ver = false ∧ (p = 21 ∨ (p = 17 ∧ tp = 14)) then 0 else p := by
 unfold headG
 rw [find_at (fun p => elemG p h) p hp _ i hb hi]
theorem set_last {α : Type} (r : List α) (x y : α) : (r ++ [x]).set r.length y = r ++ [y] := by
 rw [List.set_append_right _ _ (Nat.le_refl _), Nat.sub_self]; rfl
theorem get_last {α : Type} (r : List α) (x z : α) : (r ++ [x]).getD r.length z = x := by
 rw [List.getD_eq_getElem?_getD, List.getElem?_append_right (Nat.le_refl _), Nat.sub_self]; rfl
def HeadP (g : Nat) (s : Gs) : Prop := ∀ (c t : Int) (k : Bool) (n : Int) (w : World) (S : Nat → Prop), Hs w S [gk g (some s)] →
 Calls Try.prog 31 #[.pointer (some ⟨g, 0, none⟩), .agg #[.int .i64 c, .int .i64 t, .bool k, .int .i64 n]] w fun e w' => e = .returned (.int .i64 (headG s.ver (topG s.st) ⟨c, t, k, n⟩)) ∧ Sp w S [gk g (some ⟨setG s.st (headG s.ver (topG s.st) ⟨c, t, k, n⟩), s.leaf, s.ver⟩)] w'
theorem gk_open {w : World} {S : Nat → Prop} {g : Nat} {s : Gs} (h : Hs w S [gk g (some s)]) : ∃ A c, Sp w S [blk g #[.slice A s.st.reverse.length c, .int .i64 s.leaf, .bool s.ver, .bool false] 54, row kF 90 (.slice A s.st.reverse.length c) s.st.reverse] w := by
 obtain ⟨q, h⟩ := (Sp.start h).ex0
 have := h.flat
 rw [List.append_nil] at this
 exact ⟨q.1, q.2, this⟩
theorem gk_shut {w0 w : World} {S : Nat → Prop} {g : Nat} {st : List (Int × Int)} {lf : Int} {vr : Bool} {A : Option Addr} {c n : Nat} {xs : List (Int × Int)} (h : Sp w0 S [blk g #[.slice A n c, .int .i64 lf, .bool vr, .bool false] 54, row kF 90 (.slice A n c) xs] w) (hn : n = xs.length) (hx : xs = st.reverse) : Sp w0 S [gk g (some ⟨st, lf, vr⟩)] w := by
 subst hn hx
 exact Sp.exI (A, c) (Sp.fold [_, _] h)
theorem add0 (g k : Nat) : (⟨g, 0, none⟩ : Addr).add k = ⟨g, k, none⟩ := add_plain g k
theorem rfz {α : Type} {d : Kd α} {e : Nat} {w0 w : World} {S0 : Nat → Prop} {l : List Ast} {ad : Addr} {g n c : Nat} {xs : List α} (h : Sp w0 S0 l w) (i k : Nat) (hg : ad = ⟨g, 0, none⟩) (hi : l[i]? = some (Sl.row d e (.slice (some ad) n c) xs) := by rfl) : ∀ j, w.frozen? ⟨(ad.add k).block, j, none⟩ = false := by
 subst hg
 intro j
 rw [add0]
 obtain ⟨cells, hc⟩ := Kd.R_typed (h.row i hi) g rfl
 exact blk_frozen hc j
theorem next_len : ∀ q ∈ pcs, (nextG q.1 q.2).1.length ≤ 100 := by decide
end Go.Proofs.Ytcfommconnlhgaa.Gm
namespace Go.Proofs.Ytcfommconnlhgaa.Gm
open RowKit PC YtcfommconnlhgaaW.PrintWords YtcfommconnlhgaaW.PrintLast YtcfommconnlhgaaW.PrintMore Own Sl
open Bs Vp
set_option linter.unusedVariables false
set_option linter.unusedSimpArgs false
set_option maxHeartbeats 8000000 in
set_option maxRecDepth 100000 in
theorem head_nil (g : Nat) (lf : Int) (vr : Bool) : HeadP g ⟨[], lf, vr⟩ := by
  intro c t k n w S h
  obtain ⟨A, cA, hS⟩ := gk_open h
  have hu := Try.underlying32
  have hu2 := Try.underlying54
  have hu3 := Try.underlying90
  clear h
  obtain ⟨r, hr⟩ : ∃ r, headG vr (0, 0) ⟨c, t, k, n⟩ = r := ⟨_, rfl⟩
  have HR := Aside0.mk hr
  obtain ⟨ps, hps⟩ : ∃ ps, (nextG 0 0).1 = ps := ⟨_, rfl⟩
  have HPS := Aside0.mk hps
  have HRG := Aside0.mk (fun x (hx : x ∈ ps) => (next_mem (0, 0) zz8 x (by rw [← hps] at hx; exact hx)).1)
  obtain ⟨nb, hnb⟩ : ∃ nb, (nextG 0 0).2 = nb := ⟨_, rfl⟩
  have HNX := Aside0.mk (fun W => next_any 0 0 W)
  unfold RN at HNX
  rw [hps, hnb] at HNX
  obtain ⟨m, hm⟩ : ∃ m, ps.length = m := ⟨_, rfl⟩
  have HM := Aside0.mk hm
  rw [hm] at HNX
  have HM7 := Aside0.mk (show m ≤ 100 by rw [← hm, ← hps]; exact next_len (0, 0) zz8)
  have hS : Sp w S [blk g #[.slice A 0 cA, .int .i64 lf, .bool vr, .bool false] 54, row kF 90 (.slice A 0 cA) []] w := hS
  show Calls _ _ _ _ fun e w' => e = .returned (.int .i64 (headG vr (0, 0) ⟨c, t, k, n⟩)) ∧ Sp w S [gk g (some ⟨setG ([]) (headG vr (0, 0) ⟨c, t, k, n⟩), lf, vr⟩)] w'
  rw [hr]
  clear hr hps hnb hm
  go_enter Try.func31, Try.ntmps31
  go_wp2_with (first
    | ((with_reducible refine gate_dst (N := 3) rfl ?_)
       refine sp_box hS rfl (N := 3) rfl _ 32 zz1 ?_
       intro g3 w1 hg3 hS
       obtain ⟨j0, j1, j2, j3⟩ := hS.cells4 1)
    | ((with_reducible refine gate_dst (N := 5) rfl ?_)
       refine sp_box hS rfl (N := 5) rfl _ 90 zz1 ?_
       intro g5 w2 hg5 hS
       clear j0 j1 j2 j3
       obtain ⟨j0, j1, j2, j3⟩ := hS.cells4 2
       obtain ⟨f0, f1⟩ := hS.cells2 0
       obtain ⟨k0, k1, k2, k3⟩ := hS.cells4 1)
    | (go_at_call 32
       (with_reducible refine (HNX.out _).mono ?_)
       rintro e w3 ⟨A2, c2, rfl, hq⟩
       replace hS := hS.post0 (hq.mo (fun _ h => h.elim))))
  clear f0 f1 j0 j1 j2 j3 k0 k1 k2 k3
  go_loopg [36] m (fun gk_ v36 wr => ∃ (i : Nat), v36 = .int .i64 (i : Int) ∧ Aside0 (i ≤ m ∧ m - i ≤ gk_ ∧ ∀ x ∈ ps.take i, elemG x ⟨c, t, k, n⟩ = false) ∧ Aside0 (Sp w S [row (Kd.int .i64) 3 (.slice A2 m c2) ps, blk g5 #[.int .i64 0, .int .i64 0] 90, blk g3 #[.int .i64 c, .int .i64 t, .bool k, .int .i64 n] 32, blk g #[.slice A 0 cA, .int .i64 lf, .bool vr, .bool false] 54, row kF 90 (.slice A 0 cA) []] wr))
  case atStart => exact ⟨0, rfl, ⟨Nat.zero_le _, zz4, fun x hx => by simp at hx⟩, ⟨by exact hS⟩⟩
  case round =>
    clear hS
    obtain ⟨i, rfl, HI, HS⟩ := hrel
    have hS := HS.out
    clear HS
    have hi0 : (0 : Int) ≤ (i : Int) := by omega
    have hi1 : (i : Int) ≤ 100 := by have := HI.out.1; have := HM7.out; omega
    by_cases hlti : i < m
    case neg =>
      have hd : decide (i < m) = false := decide_eq_false hlti
      have hr0 : 0 = r := by
        have h1 := HI.out
        rw [show i = m by omega, ← HM.out, List.take_length] at h1
        rw [← HR.out, head_none (by rw [HPS.out]; exact h1.2.2)]
      clear hlti HI
      subst hr0
      go_wp2
      go_ret
      exact ⟨rfl, gk_shut (Sp.sel (l2 := [blk g #[.slice A 0 cA, .int .i64 lf, .bool vr, .bool false] 54, row kF 90 (.slice A 0 cA) []]) hS.lt [3, 4]) rfl rfl⟩
    have hd : decide (i < m) = true := decide_eq_true hlti
    have hil : i < ps.length := by rw [HM.out]; exact hlti
    obtain ⟨ax, rfl, hcx⟩ := int_at (hS.reads 0) i hlti
    obtain ⟨p, hp⟩ : ∃ p, ps.getD i 0 = p := ⟨_, rfl⟩
    have hpx : ps[i]? = some p := by rw [← hp, List.getD_eq_getElem?_getD, List.getElem?_eq_getElem hil]; rfl
    rw [hp] at hcx
    have hpr := HRG.out p (List.mem_of_getElem? hpx)
    obtain ⟨b, hb⟩ : ∃ b, elemG p ⟨c, t, k, n⟩ = b := ⟨_, rfl⟩
    have HEL := Aside0.mk (fun W => element_any p c t k n W hpr.1 hpr.2)
    rw [hb] at HEL
    have HB := Aside0.mk hb
    have HX := Aside0.mk hpx
    have HLI := Aside0.mk hlti
    have hin : (i : Int) < (m : Int) := by omega
    have hpp := Aside0.mk hpr
    obtain ⟨j0, j1, j2, j3⟩ := hS.cells4 2
    clear hp hpx hpr hb hil hlti
    cases b
    · go_wp2_with (first
        | (go_at_call 46
           (with_reducible refine (HEL.out _).mono ?_)
           rintro e w4 ⟨rfl, hun⟩
           replace hS := hS.toN hun))
      go_roundg (gk - 1)
      case measure => have := HI.out; have := HLI.out; omega
      case rel => exact ⟨i + 1, zz19, ⟨by have := HLI.out; omega, by have := HI.out; have := HLI.out; omega, fun x hx => by
        rw [List.take_add_one, HX.out, Option.toList_some] at hx
        rcases List.mem_append.1 hx with hx | hx
        · exact HI.out.2.2 x hx
        · rw [List.mem_singleton.1 hx]; exact HB.out⟩, ⟨zz25⟩⟩
    · have hres := head_some (ver := vr) (by rw [HPS.out]; exact HI.out.2.2) (by rw [HPS.out]; exact HX.out) HB.out
      rw [HR.out] at hres
      have hcases : (vr = true ∧ r = p) ∨ (vr = false ∧ (p == 21) = true ∧ r = 0) ∨ (vr = false ∧ (p == 21) = false ∧ (p == 17) = true ∧ ((0 : Int) == 14) = true ∧ r = 0) ∨ (vr = false ∧ (p == 21) = false ∧ (p == 17) = true ∧ ((0 : Int) == 14) = false ∧ r = p) ∨ (vr = false ∧ (p == 21) = false ∧ (p == 17) = false ∧ r = p) := by
        cases vr <;> cases e1 : (p == 21) <;> cases e2 : (p == 17) <;> cases e3 : ((0 : Int) == (14 : Int)) <;> simp only [beq_iff_eq, beq_eq_false_iff_ne, ne_eq] at e1 e2 e3 <;> simp [e1, e2, e3] at hres ⊢ <;> exact hres
      have hp0 : ¬ p = 0 := by have := hpp.out; omega
      have HP0 := Aside0.mk hp0
      clear hres hp0
      rcases hcases with ⟨rfl, rfl⟩ | ⟨rfl, e1, rfl⟩ | ⟨rfl, e1, e2, e3, rfl⟩ | ⟨rfl, e1, e2, e3, rfl⟩ | ⟨rfl, e1, e2, rfl⟩
      all_goals
        go_wp2_with (first
          | (go_at_call 46
             (with_reducible refine (HEL.out _).mono ?_)
             rintro e w4 ⟨rfl, hun⟩
             replace hS := hS.toN hun
             obtain ⟨f0, f1⟩ := hS.cells2 1
             obtain ⟨k0, k1, k2, k3⟩ := hS.cells4 3))
        go_ret
        exact ⟨rfl, gk_shut (st := setG [] _) (Sp.sel (l2 := [blk g #[.slice A 0 cA, .int .i64 lf, .bool _, .bool false] 54, row kF 90 (.slice A 0 cA) []]) hS.lt [3, 4]) rfl (by unfold setG; split <;> rfl)⟩
set_option maxHeartbeats 8000000 in
set_option maxRecDepth 100000 in
theorem head_cons (g : Nat) (tp tc : Int) (r0 : List (Int × Int)) (lf : Int) (vr : Bool) (hmem : (tp, tc) ∈ pcs) (hlen : r0.length ≤ 1000000000) : HeadP g ⟨(tp, tc) :: r0, lf, vr⟩ := by
  intro c t k n w S h
  obtain ⟨A, cA, hS⟩ := gk_open h
  have hu := Try.underlying32
  have hu2 := Try.underlying54
  have hu3 := Try.underlying90
  clear h
  obtain ⟨r, hr⟩ : ∃ r, headG vr (tp, tc) ⟨c, t, k, n⟩ = r := ⟨_, rfl⟩
  have HR := Aside0.mk hr
  obtain ⟨ps, hps⟩ : ∃ ps, (nextG tp tc).1 = ps := ⟨_, rfl⟩
  have HPS := Aside0.mk hps
  have HRG := Aside0.mk (fun x (hx : x ∈ ps) => (next_mem (tp, tc) hmem x (by rw [← hps] at hx; exact hx)).1)
  obtain ⟨nb, hnb⟩ : ∃ nb, (nextG tp tc).2 = nb := ⟨_, rfl⟩
  have HNX := Aside0.mk (fun W => next_any tp tc W)
  unfold RN at HNX
  rw [hps, hnb] at HNX
  obtain ⟨m, hm⟩ : ∃ m, ps.length = m := ⟨_, rfl⟩
  have HM := Aside0.mk hm
  rw [hm] at HNX
  have HM7 := Aside0.mk (show m ≤ 100 by rw [← hm, ← hps]; exact next_len (tp, tc) hmem)
  have hS := hS
  simp only [List.reverse_cons] at hS
  obtain ⟨L, hL⟩ : ∃ L, r0.reverse ++ [(tp, tc)] = L := ⟨_, rfl⟩
  have HL := Aside0.mk hL
  rw [hL] at hS
  obtain ⟨nn, hnn⟩ : ∃ nn, L.length = nn := ⟨_, rfl⟩
  have HNN := Aside0.mk hnn
  obtain ⟨mm, hmm⟩ : ∃ mm, r0.length = mm := ⟨_, rfl⟩
  have HMM := Aside0.mk hmm
  have hnm : nn = mm + 1 := by rw [← hnn, ← hL, ← hmm]; simp
  have hn1000 : (nn : Int) ≤ 1000000001 := by omega
  have hm0 : (0 : Int) ≤ (mm : Int) := by omega
  have hlt : (mm : Int) < (nn : Int) := by omega
  have hwr : IntKind.i64.wrap ((nn : Int) - 1) = (mm : Int) := by rw [i64_w, Bs.w64 zz4 zz4]; omega
  have hwr2 : wrap64 ((nn : Int) - 1) = (mm : Int) := by rw [Bs.w64 zz4 zz4]; omega
  have hnn0 : decide ((0 : Int) < (nn : Int)) = true := decide_eq_true zz4
  have hnn1 : decide (0 < nn) = true := decide_eq_true zz4
  have HLT := Aside0.mk (show mm < nn by omega)
  rw [hnn] at hS
  obtain ⟨ad, rfl, hc0, hc1⟩ := at_F (hS.reads 1) mm zz4
  have hgl : L.getD mm (0, 0) = (tp, tc) := by rw [← hL, ← hmm, ← List.length_reverse]; exact get_last _ _ _
  rw [hgl] at hc0 hc1
  obtain ⟨g2, hg2⟩ := Kd.R_head (hS.row 1)
  have HAD := Aside0.mk hg2
  have HGL := Aside0.mk hgl
  clear hL hnn hmm hgl hg2 hnm
  show Calls _ _ _ _ fun e w' => e = .returned (.int .i64 (headG vr (tp, tc) ⟨c, t, k, n⟩)) ∧ Sp w S [gk g (some ⟨setG ((tp, tc) :: r0) (headG vr (tp, tc) ⟨c, t, k, n⟩), lf, vr⟩)] w'
  rw [hr]
  clear hr hps hnb hm
  go_enter Try.func31, Try.ntmps31
  go_wp2_with (first
    | ((with_reducible refine gate_dst (N := 3) rfl ?_)
       refine sp_box hS rfl (N := 3) rfl _ 32 zz1 ?_
       intro g3 w1 hg3 hS
       obtain ⟨j0, j1, j2, j3⟩ := hS.cells4 1)
    | ((with_reducible refine gate_dst (N := 5) rfl ?_)
       refine sp_box hS rfl (N := 5) rfl _ 90 zz1 ?_
       intro g5 w2 hg5 hS
       clear j0 j1 j2 j3
       obtain ⟨j0, j1, j2, j3⟩ := hS.cells4 2
       obtain ⟨f0, f1⟩ := hS.cells2 0
       obtain ⟨k0, k1, k2, k3⟩ := hS.cells4 1
       clear hc0 hc1
       obtain ⟨ad2, had, hc0, hc1⟩ := at_F (hS.reads 3) mm HLT.out
       cases had
       rw [HGL.out] at hc0 hc1)
    | ((with_reducible refine gate_store (t := 90) (p := 5) (v := .tmp 25) rfl ?_)
       refine sp_row hS 0 rfl 90 (.tmp 5) (.tmp 25) rfl rfl g5 #[.int .i64 tp, .int .i64 tc] rfl rfl 90 _ rfl zz5 rfl zz16 rfl ?_
       intro w4 hS
       clear f0 f1
       obtain ⟨f0, f1⟩ := hS.cells2 0)
    | (go_at_call 32
       (with_reducible refine (HNX.out _).mono ?_)
       rintro e w3 ⟨A2, c2, rfl, hq⟩
       replace hS := hS.post0 (hq.mo (fun _ h => h.elim))))
  clear f0 f1 j0 j1 j2 j3 k0 k1 k2 k3 hc0 hc1
  go_loopg [36] m (fun gk_ v36 wr => ∃ (i : Nat), v36 = .int .i64 (i : Int) ∧ Aside0 (i ≤ m ∧ m - i ≤ gk_ ∧ ∀ x ∈ ps.take i, elemG x ⟨c, t, k, n⟩ = false) ∧ Aside0 (Sp w S [row (Kd.int .i64) 3 (.slice A2 m c2) ps, blk g5 #[.int .i64 tp, .int .i64 tc] 90, blk g3 #[.int .i64 c, .int .i64 t, .bool k, .int .i64 n] 32, blk g #[.slice (some ad) nn cA, .int .i64 lf, .bool vr, .bool false] 54, row kF 90 (.slice (some ad) nn cA) L] wr))
  case atStart => exact ⟨0, rfl, ⟨Nat.zero_le _, zz4, fun x hx => by simp at hx⟩, ⟨by exact hS⟩⟩
  case round =>
    clear hS
    obtain ⟨i, rfl, HI, HS⟩ := hrel
    have hS := HS.out
    clear HS
    have hi0 : (0 : Int) ≤ (i : Int) := by omega
    have hi1 : (i : Int) ≤ 100 := by have := HI.out.1; have := HM7.out; omega
    by_cases hlti : i < m
    case neg =>
      have hd : decide (i < m) = false := decide_eq_false hlti
      have hr0 : 0 = r := by
        have h1 := HI.out
        rw [show i = m by omega, ← HM.out, List.take_length] at h1
        rw [← HR.out, head_none (by rw [HPS.out]; exact h1.2.2)]
      clear hlti HI
      subst hr0
      go_wp2
      go_ret
      exact ⟨rfl, gk_shut (Sp.sel (l2 := [blk g #[.slice (some ad) nn cA, .int .i64 lf, .bool vr, .bool false] 54, row kF 90 (.slice (some ad) nn cA) L]) hS.lt [3, 4]) HNN.out.symm (by rw [setG, if_pos rfl, ← HL.out, List.reverse_cons])⟩
    have hd : decide (i < m) = true := decide_eq_true hlti
    have hil : i < ps.length := by rw [HM.out]; exact hlti
    obtain ⟨ax, rfl, hcx⟩ := int_at (hS.reads 0) i hlti
    obtain ⟨p, hp⟩ : ∃ p, ps.getD i 0 = p := ⟨_, rfl⟩
    have hpx : ps[i]? = some p := by rw [← hp, List.getD_eq_getElem?_getD, List.getElem?_eq_getElem hil]; rfl
    rw [hp] at hcx
    have hpr := HRG.out p (List.mem_of_getElem? hpx)
    obtain ⟨b, hb⟩ : ∃ b, elemG p ⟨c, t, k, n⟩ = b := ⟨_, rfl⟩
    have HEL := Aside0.mk (fun W => element_any p c t k n W hpr.1 hpr.2)
    rw [hb] at HEL
    have HB := Aside0.mk hb
    have HX := Aside0.mk hpx
    have HLI := Aside0.mk hlti
    have hin : (i : Int) < (m : Int) := by omega
    have hpp := Aside0.mk hpr
    obtain ⟨j0, j1, j2, j3⟩ := hS.cells4 2
    clear hp hpx hpr hb hil hlti
    cases b
    · go_wp2_with (first
        | (go_at_call 46
           (with_reducible refine (HEL.out _).mono ?_)
           rintro e w4 ⟨rfl, hun⟩
           replace hS := hS.toN hun))
      go_roundg (gk - 1)
      case measure => have := HI.out; have := HLI.out; omega
      case rel => exact ⟨i + 1, zz19, ⟨by have := HLI.out; omega, by have := HI.out; have := HLI.out; omega, fun x hx => by
        rw [List.take_add_one, HX.out, Option.toList_some] at hx
        rcases List.mem_append.1 hx with hx | hx
        · exact HI.out.2.2 x hx
        · rw [List.mem_singleton.1 hx]; exact HB.out⟩, ⟨zz25⟩⟩
    · have hres := head_some (ver := vr) (by rw [HPS.out]; exact HI.out.2.2) (by rw [HPS.out]; exact HX.out) HB.out
      rw [HR.out] at hres
      have hcases : (vr = true ∧ r = p) ∨ (vr = false ∧ (p == 21) = true ∧ r = 0) ∨ (vr = false ∧ (p == 21) = false ∧ (p == 17) = true ∧ (tp == 14) = true ∧ r = 0) ∨ (vr = false ∧ (p == 21) = false ∧ (p == 17) = true ∧ (tp == 14) = false ∧ r = p) ∨ (vr = false ∧ (p == 21) = false ∧ (p == 17) = false ∧ r = p) := by
        cases vr <;> cases e1 : (p == 21) <;> cases e2 : (p == 17) <;> cases e3 : (tp == (14 : Int)) <;> simp only [beq_iff_eq, beq_eq_false_iff_ne, ne_eq] at e1 e2 e3 <;> simp [e1, e2, e3] at hres ⊢ <;> exact hres
      have hp0 : ¬ p = 0 := by have := hpp.out; omega
      have HP0 := Aside0.mk hp0
      clear hres hp0
      rcases hcases with ⟨rfl, rfl⟩ | ⟨rfl, e1, rfl⟩ | ⟨rfl, e1, e2, e3, rfl⟩ | ⟨rfl, e1, e2, e3, rfl⟩ | ⟨rfl, e1, e2, rfl⟩
      all_goals
        go_wp2_with (first
          | (go_at_call 46
             (with_reducible refine (HEL.out _).mono ?_)
             rintro e w4 ⟨rfl, hun⟩
             replace hS := hS.toN hun
             obtain ⟨f0, f1⟩ := hS.cells2 1
             obtain ⟨k0, k1, k2, k3⟩ := hS.cells4 3
             have fz := rfz hS 4 (mm * 2) HAD.out
             obtain ⟨ad2, had, hc0, hc1⟩ := at_F (hS.reads 4) mm HLT.out
             cases had
             rw [HGL.out] at hc0 hc1))
        first
        | (go_ret
           exact ⟨rfl, gk_shut (Sp.sel (l2 := [blk g #[.slice (some ad) nn cA, .int .i64 lf, .bool _, .bool false] 54, row kF 90 (.slice (some ad) nn cA) L]) hS.lt [3, 4]) HNN.out.symm (by rw [setG, if_pos rfl, ← HL.out, List.reverse_cons])⟩)
        | (go_region
           go_wp2
           go_ret
           have hA := HAD.out
           subst hA
           have hf := Sp.fset hS 4 rfl (j := mm) (by rw [HNN.out]; exact HLT.out) r
           rw [HGL.out] at hf
           have hset : L.set mm (tp, r) = r0.reverse ++ [(tp, r)] := by rw [← HL.out, ← HMM.out, ← List.length_reverse]; exact set_last _ _ _
           rw [show ((tp, tc) : Int × Int).1 = tp from rfl, hset] at hf
           simp only [add0]
           exact ⟨rfl, gk_shut (Sp.sel (l2 := [blk g #[.slice (some ⟨g2, 0, none⟩) nn cA, .int .i64 lf, .bool _, .bool false] 54, row kF 90 (.slice (some ⟨g2, 0, none⟩) nn cA) (r0.reverse ++ [(tp, r)])]) hf.lt [3, 4]) (by rw [← hset, List.length_set]; exact HNN.out.symm) (by rw [setG, if_neg HP0.out, List.reverse_cons])⟩)
theorem head_any (g : Nat) (s : Gs) (d : Nat) (hg : Okg s d) (hd : d ≤ 1000000000) : HeadP g s := by
  obtain ⟨st, lf, vr⟩ := s
  cases st with
  | nil => exact head_nil g lf vr
  | cons q r0 => exact head_cons g q.1 q.2 r0 lf vr (hg.ins q zz19).1 (by have := hg.len; simp only [List.length_cons] at this; omega)
end Go.Proofs.Ytcfommconnlhgaa.Gm
