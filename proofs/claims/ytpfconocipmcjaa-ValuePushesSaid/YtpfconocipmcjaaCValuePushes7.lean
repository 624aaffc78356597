/- What the row of ValuePushes stands on, made small by a program of this session (pack.py). -/
import Derived.Test.YtpfconocipmcjaaCValuePushes2
import Derived.Test.YtpfconocipmcjaaCValuePushes3
import Derived.Test.YtpfconocipmcjaaCValuePushes6
namespace Go.Proofs.Ytpfconocipmcjaa.BNum
open RowKit PC YtpfconocipmcjaaW.PrintWords YtpfconocipmcjaaW.PrintLast YtpfconocipmcjaaW.PrintMore
open Bs
open Go.Proofs.Ytpfconocipmcjaa.Nm (pn sb fo sv Least Fits)
set_option linter.unusedVariables false
def okN (tag n : Int) : Bool :=
 if tag = 2 ∨ tag = 10 then decide (n > 0) else if tag = 1 then n == 1 else if tag = 5 then n == 0 else decide (n ≥ 0)
def okP (tag at_ first b : Int) : Bool :=
 if tag = 1 then b == 0 || b == 255
 else if (tag = 2 ∨ tag = 10) ∧ at_ = 1 then !(first == 0 && decide (b < 128) || first == 255 && decide (b ≥ 128))
 else true
theorem start_eq (k : Nat) (tag n : Int) : number_Start.f (k + 1) tag n = some (if okN tag n = true then (tag, n, 0, 0, true) else (0, 0, 0, 0, false)) := by
 unfold number_Start.f okN
 simp only [number_Start.j0]
 by_cases h2 : tag = 2
 ·
  subst h2; by_cases hn : n > 0 <;> simp [hn]
 by_cases h10 : tag = 10
 ·
  subst h10; by_cases hn : n > 0 <;> simp [hn]
 by_cases h1 : tag = 1
 ·
  subst h1; by_cases hn : n = 1 <;> simp [hn]
 by_cases h5 : tag = 5
 ·
  subst h5; by_cases hn : n = 0 <;> simp [hn]
 by_cases hn : n ≥ 0 <;> simp [h2, h10, h1, h5, hn]
theorem push_eq (k : Nat) (tag n at_ first b : Int) (ha : 0 ≤ at_) (ha' : at_ < 4611686018427387904) : number_State_Push.f (k + 1) tag n at_ first b =
 some (if okP tag at_ first b = true then (tag, n, at_ + 1, (if at_ = 0 then b else first), true) else (0, 0, 0, 0, false)) := by
 have e : ∀ c : Bool, number_State_Push.j0 (k + 1) b c tag n at_ first = some (if c = true then (tag, n, at_ + 1, (if at_ = 0 then b else first), true) else (0, 0, 0, 0, false)) := by
  intro c
  simp only [number_State_Push.j0]
  rw [w64 (x := at_ + 1) zz3 zz3]
  cases c
  ·
   rfl
  ·
   by_cases h : at_ = 0
   ·
    simp [h]
   ·
    simp [h]
 have e1 : ∀ c d : Bool, c = d → number_State_Push.j0 (k + 1) b c tag n at_ first = some (if d = true then (tag, n, at_ + 1, (if at_ = 0 then b else first), true) else (0, 0, 0, 0, false)) := fun c d h => h ▸ e c
 unfold number_State_Push.f
 by_cases h1 : tag = 1
 ·
  rw [if_pos h1]
  by_cases hb : b = 0
  ·
   rw [if_pos hb]; exact e1 _ _ (by simp [okP, h1, hb])
  ·
   rw [if_neg hb]; exact e1 _ _ (by simp [okP, h1, hb])
 rw [if_neg h1]
 by_cases h2 : tag = 2
 ·
  rw [if_pos h2]
  by_cases h3 : at_ = 1
  ·
   rw [if_pos h3]
   by_cases h4 : first = 0
   ·
    rw [if_pos h4]
    by_cases h5 : b < 128
    ·
     rw [if_pos h5]; exact e1 _ _ (by simp [okP, h2, h3, h4, h5])
    ·
     rw [if_neg h5, if_neg zz3]; exact e1 _ _ (by simp [okP, h2, h3, h4, h5])
   ·
    rw [if_neg h4]
    by_cases h6 : first = 255
    ·
     rw [if_pos h6]; exact e1 _ _ (by simp [okP, h2, h3, h6])
    ·
     rw [if_neg h6]; exact e1 _ _ (by simp [okP, h2, h3, h4, h6])
  ·
   rw [if_neg h3]; exact e1 _ _ (by simp [okP, h2, h3])
 rw [if_neg h2]
 by_cases h10 : tag = 10
 ·
  rw [if_pos h10]
  by_cases h3 : at_ = 1
  ·
   rw [if_pos h3]
   by_cases h4 : first = 0
   ·
    rw [if_pos h4]
    by_cases h5 : b < 128
    ·
     rw [if_pos h5]; exact e1 _ _ (by simp [okP, h10, h3, h4, h5])
    ·
     rw [if_neg h5, if_neg zz3]; exact e1 _ _ (by simp [okP, h10, h3, h4, h5])
   ·
    rw [if_neg h4]
    by_cases h6 : first = 255
    ·
     rw [if_pos h6]; exact e1 _ _ (by simp [okP, h10, h3, h6])
    ·
     rw [if_neg h6]; exact e1 _ _ (by simp [okP, h10, h3, h4, h6])
  ·
   rw [if_neg h3]; exact e1 _ _ (by simp [okP, h10, h3])
 rw [if_neg h10]
 exact e1 _ _ (by simp [okP, h1, h2, h10])
def wr (tag n : Int) (l : List Int) : Int :=
 if okN tag n = false ∨ n < 0 then 0
 else if tag = 1 then (match l with
  | b :: _ => if okP 1 0 0 b = true then -1 else 1
  | [] => -1)
 else if tag = 2 ∨ tag = 10 then (match l with
  | a :: b :: _ => if okP tag 1 a b = true then -1 else 2
  | _ => -1)
 else -1
theorem wrong_eq (k : Nat) (tag n : Int) (s : ByteArray) : gantletref10_Wrong.f (k + 1) tag n s = some (wr tag n (bytesOf s)) := by
 have hl := bytesOf_length s
 have hb0 := bt_get s 0
 have hb1 := bt_get s 1
 have j0 : ∀ c : Bool, 0 ≤ n → gantletref10_Wrong.j0 (k + 1) n s c = some (if c = true then -1 else if n = 0 then 0 else (match bytesOf s with
  | a :: b :: _ => if okP 2 1 a b = true then -1 else 2
  | _ => -1)) := by
  intro c hn
  simp only [gantletref10_Wrong.j0]
  cases c
  ·
   simp only [Bool.false_eq_true, if_false]
   by_cases h0 : n = 0
   ·
    rw [if_pos h0, if_pos h0]
   rw [if_neg h0, if_neg h0]
   cases hs : bytesOf s with
   | nil => rw [hs] at hl; rw [if_neg (by simp at hl; omega)]
   | cons a r =>
     cases r with
     | nil => rw [hs] at hl; rw [if_neg (by simp at hl; omega)]
     | cons b r =>
       rw [hs] at hl hb0 hb1
       simp at hl hb0 hb1
       rw [if_pos zz3, if_pos zz3, hb0, hb1]
       simp only [okP]
       by_cases ha : a = 0
       ·
        subst ha
        rw [if_pos rfl, if_pos zz3]
        by_cases hb : b < 128
        ·
         rw [if_pos hb]; simp [hb]
        ·
         rw [if_neg hb, if_neg zz13]; simp [hb]
       ·
        rw [if_neg ha]
        by_cases ha5 : a = 255
        ·
         subst ha5
         rw [if_pos rfl, if_pos zz3]
         by_cases hb : b > 127
         ·
          rw [if_pos hb]; simp; omega
         ·
          rw [if_neg hb]; simp; omega
        ·
         rw [if_neg ha5]; simp [ha, ha5]
  ·
   simp
 unfold gantletref10_Wrong.f wr
 by_cases hn : n < 0
 ·
  rw [if_pos hn, if_pos (.inr hn)]
 rw [if_neg hn]
 by_cases h5 : tag = 5
 ·
  subst h5
  rw [if_pos rfl]
  by_cases h0 : n = 0
  ·
   simp [okN, h0]
  ·
   simp [okN, h0]
 rw [if_neg h5]
 by_cases h1 : tag = 1
 ·
  subst h1
  rw [if_pos rfl]
  by_cases hn1 : n = 1
  ·
   subst hn1
   rw [if_pos rfl]
   cases hs : bytesOf s with
   | nil => rw [hs] at hl; rw [if_neg (by simp at hl; omega)]; simp [okN]
   | cons b r =>
     rw [hs] at hl hb0
     simp at hl hb0
     rw [if_pos zz3, if_pos zz3, hb0]
     by_cases h : b = 0
     ·
      simp [h, okN, okP]
     ·
      by_cases h' : b = 255
      ·
       simp [h', okN, okP]
      ·
       simp [h, h', okN, okP]
  ·
   rw [if_neg hn1]; simp [okN, hn1]
 rw [if_neg h1]
 by_cases h2 : tag = 2
 ·
  subst h2
  rw [if_pos rfl, j0 _ zz3]
  by_cases h0 : n = 0
  ·
   simp [okN, h0]
  ·
   have : n > 0 := by omega
   simp [okN, h0, this]; omega
 rw [if_neg h2, j0 _ zz3]
 by_cases h10 : tag = 10
 ·
  subst h10
  by_cases h0 : n = 0
  ·
   simp [okN, h0]
  ·
   have : n > 0 := by omega
   simp [okN, h0, this, okP]; omega
 ·
  have : (tag != 10) = true := by simpa using h10
  rw [if_pos this, if_neg, if_neg h1, if_neg zz3]
  simp [okN, h1, h2, h5, h10]; omega
end Go.Proofs.Ytpfconocipmcjaa.BNum
namespace Go.Proofs.Ytpfconocipmcjaa.Dt
def Dig (b : Int) : Prop := 48 ≤ b ∧ b ≤ 57
def Digs (l : List Int) : Prop := ∀ b, b ∈ l → Dig b
theorem Digs.append {a b : List Int} (ha : Digs a) (hb : Digs b) : Digs (a ++ b) := fun x hx => (List.mem_append.1 hx).elim (ha x) (hb x)
theorem Digs.left {a b : List Int} (h : Digs (a ++ b)) : Digs a := fun x hx => h x (List.mem_append_left _ hx)
theorem Digs.right {a b : List Int} (h : Digs (a ++ b)) : Digs b := fun x hx => h x (List.mem_append_right _ hx)
theorem Digs.take {a : List Int} (h : Digs a) (n : Nat) : Digs (a.take n) := fun x hx => h x (List.mem_of_mem_take hx)
def leap (y : Int) : Bool := (y % 4 == 0 && y % 100 != 0) || y % 400 == 0
def tab (m : Int) : Int := if m = 2 then 28 else if m = 4 ∨ m = 6 ∨ m = 9 ∨ m = 11 then 30 else 31
def days (y m : Int) : Int := if y < 0 ∨ y > 9999 ∨ m < 1 ∨ m > 12 then 0 else if m = 2 ∧ leap y = true then 29 else tab m
theorem days_range (y m : Int) : 0 ≤ days y m ∧ days y m ≤ 31 := by
 unfold days tab
 repeat' split
 all_goals omega
theorem days_pos {y m : Int} (h0 : 0 ≤ y) (h1 : y ≤ 9999) (h2 : 1 ≤ m) (h3 : m ≤ 12) : 28 ≤ days y m := by
 unfold days tab
 rw [if_neg zz3]
 repeat' split
 all_goals omega
theorem days_zero {y m : Int} (h : 1 ≤ days y m) : 1 ≤ m ∧ m ≤ 12 ∧ 0 ≤ y ∧ y ≤ 9999 := by
 unfold days at h
 split at h
 ·
  omega
 ·
  omega
def at_ (D : List Int) (i : Nat) : Int := D.getD i 0 - 48
def two (D : List Int) (i : Nat) : Int := 10 * at_ D i + at_ D (i + 1)
def yr (D : List Int) : Int := 1000 * at_ D 0 + 100 * at_ D 1 + 10 * at_ D 2 + at_ D 3
def span (D : List Int) (p : Nat) : Int × Int := if p = 4 then (1, 12) else if p = 6 then (1, days (yr D) (two D 4)) else if p = 8 then (0, 23) else (0, 59)
def may (D : List Int) : Bool :=
 if D.length ≤ 4 then true
 else if D.length % 2 = 1 then decide ((span D (D.length - 1)).1 / 10 ≤ at_ D (D.length - 1)) && decide (at_ D (D.length - 1) ≤ (span D (D.length - 1)).2 / 10)
 else decide ((span D (D.length - 2)).1 ≤ two D (D.length - 2)) && decide (two D (D.length - 2) ≤ (span D (D.length - 2)).2)
def okc (D : List Int) : Prop := ∀ j, 4 < j → j ≤ D.length → may (D.take j) = true
theorem at_append (D E : List Int) (i : Nat) (h : i < D.length) : at_ (D ++ E) i = at_ D i := by
 simp [at_, List.getD_eq_getElem?_getD, List.getElem?_append_left h]
theorem at_snoc (D : List Int) (b : Int) : at_ (D ++ [b]) D.length = b - 48 := by
 simp [at_, List.getD_eq_getElem?_getD]
theorem at_take (D : List Int) (i j : Nat) (h : i < j) : at_ (D.take j) i = at_ D i := by
 simp [at_, List.getD_eq_getElem?_getD, h]
theorem at_range {D : List Int} (h : Digs D) {i : Nat} (hi : i < D.length) : 0 ≤ at_ D i ∧ at_ D i ≤ 9 := by
 have := h (D[i]) (List.getElem_mem hi)
 obtain ⟨h1, h2⟩ := this
 simp only [at_, List.getD_eq_getElem?_getD, List.getElem?_eq_getElem hi, Option.getD_some]
 omega
theorem two_append (D E : List Int) (i : Nat) (h : i + 1 < D.length) : two (D ++ E) i = two D i := by
 unfold two; rw [at_append _ _ _ zz3, at_append _ _ _ h]
theorem two_take (D : List Int) (i j : Nat) (h : i + 1 < j) : two (D.take j) i = two D i := by
 unfold two; rw [at_take _ _ _ zz3, at_take _ _ _ h]
theorem yr_append (D E : List Int) (h : 4 ≤ D.length) : yr (D ++ E) = yr D := by
 unfold yr; rw [at_append _ _ _ zz3, at_append _ _ _ zz3, at_append _ _ _ zz3, at_append _ _ _ zz3]
theorem yr_take (D : List Int) (j : Nat) (h : 4 ≤ j) : yr (D.take j) = yr D := by
 unfold yr; rw [at_take _ _ _ zz3, at_take _ _ _ zz3, at_take _ _ _ zz3, at_take _ _ _ zz3]
theorem yr_range {D : List Int} (h : Digs D) (hl : 4 ≤ D.length) : 0 ≤ yr D ∧ yr D ≤ 9999 := by
 have h0 := at_range h (i := 0) zz3
 have h1 := at_range h (i := 1) zz3
 have h2 := at_range h (i := 2) zz3
 have h3 := at_range h (i := 3) zz3
 unfold yr; omega
theorem span_append (D E : List Int) (p : Nat) (h : p = 6 → 6 ≤ D.length) : span (D ++ E) p = span D p := by
 unfold span
 by_cases h6 : p = 6
 ·
  have := h h6
  rw [yr_append _ _ zz3, two_append _ _ _ zz3]
 ·
  rw [if_neg h6, if_neg h6]
theorem span_take (D : List Int) (p j : Nat) (h : p = 6 → 6 ≤ j) : span (D.take j) p = span D p := by
 unfold span
 by_cases h6 : p = 6
 ·
  have := h h6
  rw [yr_take _ _ zz3, two_take _ _ _ zz3]
 ·
  rw [if_neg h6, if_neg h6]
theorem may_odd (D : List Int) (p : Nat) (hp : p % 2 = 0) (h4 : 4 ≤ p) (hl : p < D.length) : may (D.take (p + 1)) = (decide ((span D p).1 / 10 ≤ at_ D p) && decide (at_ D p ≤ (span D p).2 / 10)) := by
 have hlen : (D.take (p + 1)).length = p + 1 := by rw [List.length_take]; omega
 unfold may
 rw [hlen, if_neg zz3, if_pos zz3, show p + 1 - 1 = p from rfl, at_take _ _ _ zz3, span_take _ _ _ zz3]
theorem may_even (D : List Int) (p : Nat) (hp : p % 2 = 0) (h4 : 4 ≤ p) (hl : p + 1 < D.length) : may (D.take (p + 2)) = (decide ((span D p).1 ≤ two D p) && decide (two D p ≤ (span D p).2)) := by
 have hlen : (D.take (p + 2)).length = p + 2 := by rw [List.length_take]; omega
 unfold may
 rw [hlen, if_neg zz3, if_neg zz3, show p + 2 - 2 = p from rfl, two_take _ _ _ zz3, span_take _ _ _ zz3]
theorem okc_take {D : List Int} (h : okc D) (n : Nat) : okc (D.take n) := by
 intro j h1 h2
 rw [List.length_take] at h2
 rw [List.take_take, Nat.min_eq_left zz3]
 exact h j h1 zz3
theorem okc_left {D E : List Int} (h : okc (D ++ E)) : okc D := by
 have := okc_take h D.length
 rwa [List.take_left] at this
theorem okc_short {D : List Int} (h : D.length ≤ 4) : okc D := fun j h1 h2 => by omega
theorem okc_snoc (D : List Int) (b : Int) : okc (D ++ [b]) ↔ okc D ∧ (4 < D.length + 1 → may (D ++ [b]) = true) := by
 constructor
 ·
  intro h
  refine ⟨okc_left h, fun hl => ?_⟩
  have := h (D.length + 1) hl zz29
  rwa [List.take_of_length_le zz29] at this
 ·
  rintro ⟨h1, h2⟩ j hj hl
  rw [List.length_append] at hl
  simp only [List.length_cons, List.length_nil] at hl
  rcases (zz3 : j = D.length + 1 ∨ j ≤ D.length) with rfl | h
  ·
   rw [List.take_of_length_le zz29]; exact h2 hj
  ·
   rw [List.take_append_of_le_length h]; exact h1 j hj h
theorem okc_pair {D : List Int} (h : okc D) (p : Nat) (hp : p % 2 = 0) (h4 : 4 ≤ p) (hl : p + 1 < D.length) : (span D p).1 ≤ two D p ∧ two D p ≤ (span D p).2 := by
 have := h (p + 2) zz3 zz3
 rw [may_even D p hp h4 hl] at this
 simpa using this
theorem okc_half {D : List Int} (h : okc D) (p : Nat) (hp : p % 2 = 0) (h4 : 4 ≤ p) (hl : p < D.length) : (span D p).1 / 10 ≤ at_ D p ∧ at_ D p ≤ (span D p).2 / 10 := by
 have := h (p + 1) zz3 zz3
 rw [may_odd D p hp h4 hl] at this
 simpa using this
theorem zero_first {D : List Int} (hd : okc D) (hl : D.length % 2 = 0) (h4 : 4 ≤ D.length) : okc (D ++ [48]) := by
 rw [okc_snoc]
 refine ⟨hd, fun _ => ?_⟩
 have e := may_odd (D ++ [48]) D.length hl h4 zz29
 rw [List.take_of_length_le zz29] at e
 rw [e, at_snoc, span_append _ _ _ zz3]
 have hr := days_range (yr D) (two D 4)
 unfold span
 split
 ·
  decide
 split
 ·
  simp; omega
 split
 ·
  decide
 ·
  decide
theorem some_second {D : List Int} (hg : Digs D) (hd : okc D) (hl : D.length % 2 = 1) (h4 : 4 < D.length) : ∃ b, Dig b ∧ okc (D ++ [b]) ∧ (8 < D.length → b = 48) := by
 obtain ⟨p, hp⟩ : ∃ p, D.length = p + 1 := ⟨D.length - 1, zz3⟩
 have hh := okc_half hd p zz3 zz3 zz3
 have hr := at_range hg (i := p) zz3
 have key : ∀ b, Dig b → (span D p).1 ≤ 10 * at_ D p + (b - 48) → 10 * at_ D p + (b - 48) ≤ (span D p).2 → okc (D ++ [b]) := by
  intro b hb h1 h2
  rw [okc_snoc]
  refine ⟨hd, fun _ => ?_⟩
  have e := may_even (D ++ [b]) p zz3 zz3 zz44
  rw [List.take_of_length_le zz44] at e
  have e2 : two (D ++ [b]) p = 10 * at_ D p + (b - 48) := by
   unfold two
   rw [at_append _ _ _ zz3, ← hp, at_snoc]
  rw [e, e2, span_append _ _ _ zz3]
  simp; exact ⟨h1, h2⟩
 by_cases h8 : p = 4 ∨ p = 6
 ·
  have hs : (span D p).1 = 1 ∧ 10 ≤ (span D p).2 := by
   rcases h8 with rfl | rfl
   ·
    unfold span; simp
   ·
    have hm := okc_pair hd 4 zz13 zz13 zz3
    have hm' : 1 ≤ two D 4 ∧ two D 4 ≤ 12 := by simpa [span] using hm
    have hy := yr_range hg zz3
    have := days_pos hy.1 hy.2 hm'.1 hm'.2
    have e : span D 6 = (1, days (yr D) (two D 4)) := by simp [span]
    rw [e]; simp; omega
  by_cases hz : at_ D p = 0
  ·
   exact ⟨49, by unfold Dig; omega, key 49 (by unfold Dig; omega) zz3 zz3, fun h => by omega⟩
  ·
   exact ⟨48, by unfold Dig; omega, key 48 (by unfold Dig; omega) zz3 zz3, fun _ => rfl⟩
 ·
  have hs : (span D p).1 = 0 := by
   unfold span
   rw [if_neg zz3, if_neg zz3]
   split <;> rfl
  exact ⟨48, by unfold Dig; omega, key 48 (by unfold Dig; omega) zz3 zz3, fun _ => rfl⟩
def full (D : List Int) : Prop := D.length = 14 ∧ Digs D ∧ 1 ≤ two D 6 ∧ two D 6 ≤ days (yr D) (two D 4) ∧ two D 8 < 24 ∧ two D 10 < 60 ∧ two D 12 < 60
theorem full_okc (D : List Int) (hl : D.length = 14) (hg : Digs D) : full D ↔ okc D := by
 have r := fun i (hi : i < 14) => at_range hg (i := i) zz3
 have e4 : span D 4 = (1, 12) := by simp [span]
 have e6 : span D 6 = (1, days (yr D) (two D 4)) := by simp [span]
 have e8 : span D 8 = (0, 23) := by simp [span]
 have e10 : span D 10 = (0, 59) := by simp [span]
 have e12 : span D 12 = (0, 59) := by simp [span]
 constructor
 ·
  rintro ⟨_, _, h1, h2, h3, h4, h5⟩
  have hm := days_zero (show 1 ≤ days (yr D) (two D 4) by omega)
  have q4 := r 4 zz3; have q5 := r 5 zz3; have q6 := r 6 zz3; have q7 := r 7 zz3; have q8 := r 8 zz3; have q9 := r 9 zz3
  have q10 := r 10 zz3; have q11 := r 11 zz3; have q12 := r 12 zz3; have q13 := r 13 zz3
  have t4 : two D 4 = 10 * at_ D 4 + at_ D 5 := rfl
  have t6 : two D 6 = 10 * at_ D 6 + at_ D 7 := rfl
  have t8 : two D 8 = 10 * at_ D 8 + at_ D 9 := rfl
  have t10 : two D 10 = 10 * at_ D 10 + at_ D 11 := rfl
  have t12 : two D 12 = 10 * at_ D 12 + at_ D 13 := rfl
  intro j hj hj2
  have odd : ∀ p : Nat, p % 2 = 0 → 4 ≤ p → p < 14 → (span D p).1 / 10 ≤ at_ D p → at_ D p ≤ (span D p).2 / 10 → may (D.take (p + 1)) = true := by
   intro p a b c d e
   rw [may_odd D p a b zz3]; simp; exact ⟨d, e⟩
  have even : ∀ p : Nat, p % 2 = 0 → 4 ≤ p → p < 14 → (span D p).1 ≤ two D p → two D p ≤ (span D p).2 → may (D.take (p + 2)) = true := by
   intro p a b c d e
   rw [may_even D p a b zz3]; simp; exact ⟨d, e⟩
  rcases (zz3 : j = 5 ∨ j = 6 ∨ j = 7 ∨ j = 8 ∨ j = 9 ∨ j = 10 ∨ j = 11 ∨ j = 12 ∨ j = 13 ∨ j = 14) with rfl | rfl | rfl | rfl | rfl | rfl | rfl | rfl | rfl | rfl
  ·
   exact odd 4 zz13 zz13 zz13 (by rw [e4]; simp; omega) (by rw [e4]; simp; omega)
  ·
   exact even 4 zz13 zz13 zz13 (by rw [e4]; exact hm.1) (by rw [e4]; exact hm.2.1)
  ·
   exact odd 6 zz13 zz13 zz13 (by rw [e6]; simp; omega) (by rw [e6]; simp; omega)
  ·
   exact even 6 zz13 zz13 zz13 (by rw [e6]; exact h1) (by rw [e6]; exact h2)
  ·
   exact odd 8 zz13 zz13 zz13 (by rw [e8]; simp; omega) (by rw [e8]; simp; omega)
  ·
   exact even 8 zz13 zz13 zz13 (by rw [e8]; simp; omega) (by rw [e8]; simp; omega)
  ·
   exact odd 10 zz13 zz13 zz13 (by rw [e10]; simp; omega) (by rw [e10]; simp; omega)
  ·
   exact even 10 zz13 zz13 zz13 (by rw [e10]; simp; omega) (by rw [e10]; simp; omega)
  ·
   exact odd 12 zz13 zz13 zz13 (by rw [e12]; simp; omega) (by rw [e12]; simp; omega)
  ·
   exact even 12 zz13 zz13 zz13 (by rw [e12]; simp; omega) (by rw [e12]; simp; omega)
 ·
  intro h
  have p6 := okc_pair h 6 zz13 zz13 zz3
  have p8 := okc_pair h 8 zz13 zz13 zz3
  have p10 := okc_pair h 10 zz13 zz13 zz3
  have p12 := okc_pair h 12 zz13 zz13 zz3
  rw [e6] at p6; rw [e8] at p8; rw [e10] at p10; rw [e12] at p12
  simp only at p6 p8 p10 p12
  exact ⟨hl, hg, p6.1, p6.2, zz3, zz3, zz3⟩
def cen (b : Int) : List Int := if b ≥ 53 then [49, 57] else [50, 48]
def pad (D : List Int) : List Int := D ++ List.replicate (4 - D.length) 57
def late (D : List Int) : Bool := decide (2050 ≤ yr (pad D))
abbrev St := List Int × Int
def stp (u : Bool) (s : St) (b : Int) : Option St :=
 if s.2 - 1 = 0 then (if b = 90 then some (s.1, s.2 - 1) else none)
 else if b < 48 ∨ b > 57 then none
 else if (may ((if (u && s.1.isEmpty) = true then cen b else s.1) ++ [b]) && (u || late ((if (u && s.1.isEmpty) = true then cen b else s.1) ++ [b]))) = true then some ((if (u && s.1.isEmpty) = true then cen b else s.1) ++ [b], s.2 - 1) else none
def run (u : Bool) : St → List Int → Option St
 | s, [] => some s
 | s, b :: r => match stp u s b with
   | none => none
   | some s' => run u s' r
theorem run_append (u : Bool) (a b : List Int) : ∀ s, run u s (a ++ b) = (run u s a).bind fun s' => run u s' b := by
 induction a with
 | nil => intro s; rfl
 | cons x a ih =>
   intro s
   simp only [List.cons_append, run]
   cases stp u s x with
   | none => rfl
   | some s' => exact ih s'
theorem run_snoc (u : Bool) (a : List Int) (b : Int) (s : St) : run u s (a ++ [b]) = (run u s a).bind fun s' => stp u s' b := by
 rw [run_append]
 cases run u s a with
 | none => rfl
 | some s' =>
   simp only [Option.bind_some, run]
   cases stp u s' b <;> rfl
def F (u : Bool) (p : List Int) : List Int := if u = true then (match p with
 | [] => []
 | b :: r => cen b ++ b :: r) else p
theorem cen_len (b : Int) : (cen b).length = 2 := by unfold cen; split <;> rfl
theorem cen_digs (b : Int) : Digs (cen b) := by
 unfold cen
 split <;> (intro x hx; simp at hx; unfold Dig; omega)
theorem F_snoc (u : Bool) (p : List Int) (b : Int) : F u (p ++ [b]) = (if (u && (F u p).isEmpty) = true then cen b else F u p) ++ [b] := by
 cases u with
 | false => simp [F]
 | true =>
   cases p with
   | nil => simp [F]
   | cons a r =>
     have : (cen a ++ a :: r).isEmpty = false := by unfold cen; split <;> rfl
     simp [F, this]
theorem F_len (u : Bool) (p : List Int) : (F u p).length = if u = true ∧ p ≠ [] then p.length + 2 else p.length := by
 cases u with
 | false => simp [F]
 | true =>
   cases p with
   | nil => simp [F]
   | cons a r => simp [F, cen_len]; omega
theorem F_digs {u : Bool} {p : List Int} (h : Digs p) : Digs (F u p) := by
 cases u with
 | false => simpa [F] using h
 | true =>
   cases p with
   | nil => simpa [F] using h
   | cons a r => simp only [F, if_true]; exact (cen_digs a).append h
theorem pad_full (D : List Int) (h : 4 ≤ D.length) : pad D = D := by unfold pad; rw [show 4 - D.length = 0 by omega]; simp
theorem late_left {D : List Int} {b : Int} (hb : Dig b) (h : late (D ++ [b]) = true) : late D = true := by
 unfold late at h ⊢
 simp only [decide_eq_true_eq] at h ⊢
 obtain ⟨h1, h2⟩ := hb
 by_cases h4 : 4 ≤ D.length
 ·
  rw [pad_full _ h4, ]
  rw [pad_full _ zz44, yr_append _ _ h4] at h
  exact h
 ·
  match D, h4 with
  | [], _ => simp [pad, yr, at_]
  | [a], _ => simp [pad, yr, at_] at h ⊢; omega
  | [a, c], _ => simp [pad, yr, at_] at h ⊢; omega
  | [a, c, d], _ => simp [pad, yr, at_] at h ⊢; omega
  | _ :: _ :: _ :: _ :: _, h4 => simp at h4
def okp (u : Bool) (p : List Int) : Prop := Digs p ∧ okc (F u p) ∧ (u = false → late p = true)
theorem okp_nil (u : Bool) : okp u [] := by
 refine ⟨fun x hx => by simp at hx, okc_short (by rw [F_len]; split <;> simp), fun _ => by decide⟩
theorem okp_snoc (u : Bool) (p : List Int) (b : Int) : okp u (p ++ [b]) ↔ okp u p ∧ Dig b ∧ may (F u (p ++ [b])) = true ∧ (u = false → late (p ++ [b]) = true) := by
 have hlen : may (F u (p ++ [b])) = true ↔ (4 < (if (u && (F u p).isEmpty) = true then cen b else F u p).length + 1 → may ((if (u && (F u p).isEmpty) = true then cen b else F u p) ++ [b]) = true) := by
  rw [F_snoc]
  constructor
  ·
   intro h _; exact h
  ·
   intro h
   by_cases hl : 4 < (if (u && (F u p).isEmpty) = true then cen b else F u p).length + 1
   ·
    exact h hl
   ·
    unfold may; rw [if_pos (by rw [List.length_append]; simp only [List.length_cons, List.length_nil]; omega)]
 have hokc : okc (F u (p ++ [b])) ↔ okc (F u p) ∧ may (F u (p ++ [b])) = true := by
  rw [hlen]
  conv => lhs; rw [F_snoc]
  rw [okc_snoc]
  by_cases he : (u && (F u p).isEmpty) = true
  ·
   rw [if_pos he]
   have : F u p = [] := by simp at he; exact he.2
   rw [this]
   exact ⟨fun h => ⟨okc_short zz29, h.2⟩, fun h => ⟨okc_short (by rw [cen_len]; omega), h.2⟩⟩
  ·
   rw [if_neg he]
 unfold okp
 rw [hokc]
 constructor
 ·
  rintro ⟨h1, ⟨h2, h3⟩, h4⟩
  have hb : Dig b := h1 b zz29
  exact ⟨⟨h1.left, h2, fun hu => late_left hb (h4 hu)⟩, hb, h3, h4⟩
 ·
  rintro ⟨⟨h1, h2, _⟩, hb, h3, h4⟩
  refine ⟨h1.append (fun x hx => ?_), ⟨h2, h3⟩, h4⟩
  simp at hx; rw [hx]; exact hb
theorem rev_ind {P : List Int → Prop} (h0 : P []) (h1 : ∀ l x, P l → P (l ++ [x])) : ∀ l, P l := by
 have : ∀ l : List Int, P l.reverse := by
  intro l
  induction l with
  | nil => exact h0
  | cons a r ih => rw [List.reverse_cons]; exact h1 _ _ ih
 intro l
 rw [← List.reverse_reverse l]; exact this _
theorem okp_left {u : Bool} {a : List Int} : ∀ {b : List Int}, okp u (a ++ b) → okp u a := by
 intro b
 refine rev_ind (P := fun b => okp u (a ++ b) → okp u a) ?_ ?_ b
 ·
  intro h; simpa using h
 ·
  intro b x ih h
  rw [← List.append_assoc, okp_snoc] at h
  exact ih h.1
theorem run_okp (u : Bool) (n : Int) : ∀ (p : List Int), (p.length : Int) < n → (okp u p → run u ([], n) p = some (F u p, n - p.length)) ∧ (¬ okp u p → run u ([], n) p = none) := by
 refine rev_ind (P := fun p => (p.length : Int) < n → (okp u p → run u ([], n) p = some (F u p, n - p.length)) ∧ (¬ okp u p → run u ([], n) p = none)) ?_ ?_
 ·
  intro _
  refine ⟨fun _ => ?_, fun h => absurd (okp_nil u) h⟩
  simp [run, F]
 ·
  intro p b ih hl
  rw [List.length_append] at hl
  simp only [List.length_cons, List.length_nil] at hl
  obtain ⟨i1, i2⟩ := ih zz3
  rw [run_snoc, okp_snoc]
  by_cases hp : okp u p
  ·
   rw [i1 hp]
   simp only [Option.bind_some]
   unfold stp
   rw [if_neg zz60]
   simp only
   rw [← F_snoc]
   by_cases hb : b < 48 ∨ b > 57
   ·
    rw [if_pos hb]
    exact ⟨fun h => absurd h.2.1 (by unfold Dig; omega), fun _ => rfl⟩
   ·
    rw [if_neg hb]
    have hdig : Dig b := by unfold Dig; omega
    have hlate : (u || late (F u (p ++ [b]))) = true ↔ (u = false → late (p ++ [b]) = true) := by
     cases u <;> simp [F]
    by_cases hm : (may (F u (p ++ [b])) && (u || late (F u (p ++ [b])))) = true
    ·
     rw [if_pos hm]
     rw [Bool.and_eq_true, hlate] at hm
     refine ⟨fun _ => ?_, fun h => absurd ⟨hp, hdig, hm.1, hm.2⟩ h⟩
     rw [List.length_append]; simp; omega
    ·
     rw [if_neg hm]
     rw [Bool.and_eq_true, hlate] at hm
     exact ⟨fun h => absurd ⟨h.2.2.1, h.2.2.2⟩ hm, fun _ => rfl⟩
  ·
   rw [i2 hp]
   exact ⟨fun h => absurd h.1 hp, fun _ => rfl⟩
theorem run_last (u : Bool) (n : Int) (p : List Int) (z : Int) (hl : (p.length : Int) + 1 = n) : (okp u p ∧ z = 90 → run u ([], n) (p ++ [z]) = some (F u p, 0)) ∧ (¬ (okp u p ∧ z = 90) → run u ([], n) (p ++ [z]) = none) := by
 obtain ⟨i1, i2⟩ := run_okp u n p zz3
 rw [run_snoc]
 by_cases hp : okp u p
 ·
  rw [i1 hp]
  simp only [Option.bind_some]
  unfold stp
  rw [if_pos zz60]
  by_cases hz : z = 90
  ·
   rw [if_pos hz]
   exact ⟨fun _ => by simp only; rw [show n - (p.length : Int) - 1 = 0 by omega], fun h => absurd ⟨hp, hz⟩ h⟩
  ·
   rw [if_neg hz]
   exact ⟨fun h => absurd h.2 hz, fun _ => rfl⟩
 ·
  rw [i2 hp]
  exact ⟨fun h => absurd h.1 hp, fun _ => rfl⟩
theorem okp_next {u : Bool} {p : List Int} (h : okp u p) (hl : (F u p).length < 14) (h4 : 4 ≤ (F u p).length) : ∃ b, Dig b ∧ okp u (p ++ [b]) ∧ ((F u p).length % 2 = 0 → b = 48) ∧ (8 < (F u p).length → b = 48) := by
 obtain ⟨h1, h2, h3⟩ := h
 have hg := F_digs (u := u) h1
 have hne : (u && (F u p).isEmpty) = false := by
  cases hE : F u p with
  | nil => rw [hE] at h4; simp at h4
  | cons a r => simp
 have hF : ∀ b, F u (p ++ [b]) = F u p ++ [b] := by intro b; rw [F_snoc, hne]; simp
 have hlate : ∀ b, u = false → late (p ++ [b]) = true := by
  intro b hu
  have h3' := h3 hu
  subst hu
  have hp4 : 4 ≤ p.length := by simpa [F] using h4
  unfold late at h3' ⊢
  rw [pad_full _ hp4] at h3'
  rw [pad_full _ zz44, yr_append _ _ hp4]; exact h3'
 by_cases he : (F u p).length % 2 = 0
 ·
  have hz := zero_first h2 he h4
  refine ⟨48, by unfold Dig; omega, ?_, fun _ => rfl, fun _ => rfl⟩
  rw [okp_snoc]
  refine ⟨⟨h1, h2, h3⟩, by unfold Dig; omega, ?_, hlate 48⟩
  rw [hF]
  exact ((okc_snoc _ _).1 hz).2 zz3
 ·
  obtain ⟨b, hb, hok, h8⟩ := some_second hg h2 zz3 zz3
  refine ⟨b, hb, ?_, fun h => absurd h he, h8⟩
  rw [okp_snoc]
  refine ⟨⟨h1, h2, h3⟩, hb, ?_, hlate b⟩
  rw [hF]
  exact ((okc_snoc _ _).1 hok).2 zz3
end Go.Proofs.Ytpfconocipmcjaa.Dt
