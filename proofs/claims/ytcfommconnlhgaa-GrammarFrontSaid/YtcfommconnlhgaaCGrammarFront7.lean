/- What the row of GrammarFront stands on, made small by a program of this session (pack.py). -/
import Derived.Test.YtcfommconnlhgaaCGrammarFront2
import Derived.Test.YtcfommconnlhgaaCGrammarFront3
import Derived.Test.YtcfommconnlhgaaCGrammarFront6
namespace Go.Proofs.Ytcfommconnlhgaa.BNum
open RowKit PC YtcfommconnlhgaaW.PrintWords YtcfommconnlhgaaW.PrintLast YtcfommconnlhgaaW.PrintMore
open Bs
open Go.Proofs.Ytcfommconnlhgaa.Nm (pn sb fo sv Least Fits)
set_option linter.unusedVariables false
def okN (tag n : Int) : Bool :=
 if tag = 2 ∨ tag = 10 then decide (n > 0) else if tag = 1 then n == 1 else if tag = 5 then n == 0 else decide (n ≥ 0)
def okP (tag at_ first b : Int) : Bool :=
 if tag = 1 then b == 0 || b == 255
 else if (tag = 2 ∨ tag = 10) ∧ at_ = 1 then !(first == 0 && decide (b < 128) || first == 255 && decide (b ≥ 128))
 else true
theorem start_eq (k : Nat) (tag n : Int) : number_Start.f (k + 1) tag n = some (if okN tag n = true then (tag, n, 0, 0, true) else (0, 0, 0, 0, false)) := by
 unfold number_Start.f okN
 simp only [number_Start.j0]
 by_cases h2 : tag = 2
 ·
  subst h2; by_cases hn : n > 0 <;> simp [hn]
 by_cases h10 : tag = 10
 ·
  subst h10; by_cases hn : n > 0 <;> simp [hn]
 by_cases h1 : tag = 1
 ·
  subst h1; by_cases hn : n = 1 <;> simp [hn]
 by_cases h5 : tag = 5
 ·
  subst h5; by_cases hn : n = 0 <;> simp [hn]
 by_cases hn : n ≥ 0 <;> simp [h2, h10, h1, h5, hn]
theorem push_eq (k : Nat) (tag n at_ first b : Int) (ha : 0 ≤ at_) (ha' : at_ < 4611686018427387904) : number_State_Push.f (k + 1) tag n at_ first b =
 some (if okP tag at_ first b = true then (tag, n, at_ + 1, (if at_ = 0 then b else first), true) else (0, 0, 0, 0, false)) := by
 have e : ∀ c : Bool, number_State_Push.j0 (k + 1) b c tag n at_ first = some (if c = true then (tag, n, at_ + 1, (if at_ = 0 then b else first), true) else (0, 0, 0, 0, false)) := by
  intro c
  simp only [number_State_Push.j0]
  rw [w64 (x := at_ + 1) zz4 zz4]
  cases c
  ·
   rfl
  ·
   by_cases h : at_ = 0
   ·
    simp [h]
   ·
    simp [h]
 have e1 : ∀ c d : Bool, c = d → number_State_Push.j0 (k + 1) b c tag n at_ first = some (if d = true then (tag, n, at_ + 1, (if at_ = 0 then b else first), true) else (0, 0, 0, 0, false)) := fun c d h => h ▸ e c
 unfold number_State_Push.f
 by_cases h1 : tag = 1
 ·
  rw [if_pos h1]
  by_cases hb : b = 0
  ·
   rw [if_pos hb]; exact e1 _ _ (by simp [okP, h1, hb])
  ·
   rw [if_neg hb]; exact e1 _ _ (by simp [okP, h1, hb])
 rw [if_neg h1]
 by_cases h2 : tag = 2
 ·
  rw [if_pos h2]
  by_cases h3 : at_ = 1
  ·
   rw [if_pos h3]
   by_cases h4 : first = 0
   ·
    rw [if_pos h4]
    by_cases h5 : b < 128
    ·
     rw [if_pos h5]; exact e1 _ _ (by simp [okP, h2, h3, h4, h5])
    ·
     rw [if_neg h5, if_neg zz4]; exact e1 _ _ (by simp [okP, h2, h3, h4, h5])
   ·
    rw [if_neg h4]
    by_cases h6 : first = 255
    ·
     rw [if_pos h6]; exact e1 _ _ (by simp [okP, h2, h3, h6])
    ·
     rw [if_neg h6]; exact e1 _ _ (by simp [okP, h2, h3, h4, h6])
  ·
   rw [if_neg h3]; exact e1 _ _ (by simp [okP, h2, h3])
 rw [if_neg h2]
 by_cases h10 : tag = 10
 ·
  rw [if_pos h10]
  by_cases h3 : at_ = 1
  ·
   rw [if_pos h3]
   by_cases h4 : first = 0
   ·
    rw [if_pos h4]
    by_cases h5 : b < 128
    ·
     rw [if_pos h5]; exact e1 _ _ (by simp [okP, h10, h3, h4, h5])
    ·
     rw [if_neg h5, if_neg zz4]; exact e1 _ _ (by simp [okP, h10, h3, h4, h5])
   ·
    rw [if_neg h4]
    by_cases h6 : first = 255
    ·
     rw [if_pos h6]; exact e1 _ _ (by simp [okP, h10, h3, h6])
    ·
     rw [if_neg h6]; exact e1 _ _ (by simp [okP, h10, h3, h4, h6])
  ·
   rw [if_neg h3]; exact e1 _ _ (by simp [okP, h10, h3])
 rw [if_neg h10]
 exact e1 _ _ (by simp [okP, h1, h2, h10])
def wr (tag n : Int) (l : List Int) : Int :=
 if okN tag n = false ∨ n < 0 then 0
 else if tag = 1 then (match l with
  | b :: _ => if okP 1 0 0 b = true then -1 else 1
  | [] => -1)
 else if tag = 2 ∨ tag = 10 then (match l with
  | a :: b :: _ => if okP tag 1 a b = true then -1 else 2
  | _ => -1)
 else -1
end Go.Proofs.Ytcfommconnlhgaa.BNum
namespace Go.Proofs.Ytcfommconnlhgaa.Dt
def Dig (b : Int) : Prop := 48 ≤ b ∧ b ≤ 57
def Digs (l : List Int) : Prop := ∀ b, b ∈ l → Dig b
theorem Digs.append {a b : List Int} (ha : Digs a) (hb : Digs b) : Digs (a ++ b) := fun x hx => (List.mem_append.1 hx).elim (ha x) (hb x)
theorem Digs.left {a b : List Int} (h : Digs (a ++ b)) : Digs a := fun x hx => h x (List.mem_append_left _ hx)
theorem Digs.take {a : List Int} (h : Digs a) (n : Nat) : Digs (a.take n) := fun x hx => h x (List.mem_of_mem_take hx)
def leap (y : Int) : Bool := (y % 4 == 0 && y % 100 != 0) || y % 400 == 0
def tab (m : Int) : Int := if m = 2 then 28 else if m = 4 ∨ m = 6 ∨ m = 9 ∨ m = 11 then 30 else 31
def days (y m : Int) : Int := if y < 0 ∨ y > 9999 ∨ m < 1 ∨ m > 12 then 0 else if m = 2 ∧ leap y = true then 29 else tab m
theorem days_range (y m : Int) : 0 ≤ days y m ∧ days y m ≤ 31 := by
 unfold days tab
 repeat' split
 all_goals omega
def at_ (D : List Int) (i : Nat) : Int := D.getD i 0 - 48
def two (D : List Int) (i : Nat) : Int := 10 * at_ D i + at_ D (i + 1)
def yr (D : List Int) : Int := 1000 * at_ D 0 + 100 * at_ D 1 + 10 * at_ D 2 + at_ D 3
def span (D : List Int) (p : Nat) : Int × Int := if p = 4 then (1, 12) else if p = 6 then (1, days (yr D) (two D 4)) else if p = 8 then (0, 23) else (0, 59)
def may (D : List Int) : Bool :=
 if D.length ≤ 4 then true
 else if D.length % 2 = 1 then decide ((span D (D.length - 1)).1 / 10 ≤ at_ D (D.length - 1)) && decide (at_ D (D.length - 1) ≤ (span D (D.length - 1)).2 / 10)
 else decide ((span D (D.length - 2)).1 ≤ two D (D.length - 2)) && decide (two D (D.length - 2) ≤ (span D (D.length - 2)).2)
def okc (D : List Int) : Prop := ∀ j, 4 < j → j ≤ D.length → may (D.take j) = true
theorem at_range {D : List Int} (h : Digs D) {i : Nat} (hi : i < D.length) : 0 ≤ at_ D i ∧ at_ D i ≤ 9 := by
 have := h (D[i]) (List.getElem_mem hi)
 obtain ⟨h1, h2⟩ := this
 simp only [at_, List.getD_eq_getElem?_getD, List.getElem?_eq_getElem hi, Option.getD_some]
 omega
def cen (b : Int) : List Int := if b ≥ 53 then [49, 57] else [50, 48]
def pad (D : List Int) : List Int := D ++ List.replicate (4 - D.length) 57
def late (D : List Int) : Bool := decide (2050 ≤ yr (pad D))
abbrev St := List Int × Int
def stp (u : Bool) (s : St) (b : Int) : Option St :=
 if s.2 - 1 = 0 then (if b = 90 then some (s.1, s.2 - 1) else none)
 else if b < 48 ∨ b > 57 then none
 else if (may ((if (u && s.1.isEmpty) = true then cen b else s.1) ++ [b]) && (u || late ((if (u && s.1.isEmpty) = true then cen b else s.1) ++ [b]))) = true then some ((if (u && s.1.isEmpty) = true then cen b else s.1) ++ [b], s.2 - 1) else none
def run (u : Bool) : St → List Int → Option St
 | s, [] => some s
 | s, b :: r => match stp u s b with
   | none => none
   | some s' => run u s' r
def F (u : Bool) (p : List Int) : List Int := if u = true then (match p with
 | [] => []
 | b :: r => cen b ++ b :: r) else p
theorem cen_len (b : Int) : (cen b).length = 2 := by unfold cen; split <;> rfl
theorem cen_digs (b : Int) : Digs (cen b) := by
 unfold cen
 split <;> (intro x hx; simp at hx; unfold Dig; omega)
theorem pad_full (D : List Int) (h : 4 ≤ D.length) : pad D = D := by unfold pad; rw [show 4 - D.length = 0 by omega]; simp
def okp (u : Bool) (p : List Int) : Prop := Digs p ∧ okc (F u p) ∧ (u = false → late p = true)
theorem rev_ind {P : List Int → Prop} (h0 : P []) (h1 : ∀ l x, P l → P (l ++ [x])) : ∀ l, P l := by
 have : ∀ l : List Int, P l.reverse := by
  intro l
  induction l with
  | nil => exact h0
  | cons a r ih => rw [List.reverse_cons]; exact h1 _ _ ih
 intro l
 rw [← List.reverse_reverse l]; exact this _
end Go.Proofs.Ytcfommconnlhgaa.Dt
