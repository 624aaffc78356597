/- What the row of EncodeSorts stands on, made small by a program of this session (pack.py). -/
import Derived.Test.YtgddaddoabjgiaaCEncodeSorts2
import Derived.Test.YtgddaddoabjgiaaCEncodeSorts5
import Derived.Test.YtgddaddoabjgiaaCEncodeSorts8
namespace Go.Proofs.Ytgddaddoabjgiaa.Dt
def Dig (b : Int) : Prop := 48 ≤ b ∧ b ≤ 57
def Digs (l : List Int) : Prop := ∀ b, b ∈ l → Dig b
theorem Digs.append {a b : List Int} (ha : Digs a) (hb : Digs b) : Digs (a ++ b) := fun x hx => (List.mem_append.1 hx).elim (ha x) (hb x)
theorem Digs.left {a b : List Int} (h : Digs (a ++ b)) : Digs a := fun x hx => h x (List.mem_append_left _ hx)
theorem Digs.right {a b : List Int} (h : Digs (a ++ b)) : Digs b := fun x hx => h x (List.mem_append_right _ hx)
theorem Digs.take {a : List Int} (h : Digs a) (n : Nat) : Digs (a.take n) := fun x hx => h x (List.mem_of_mem_take hx)
def leap (y : Int) : Bool := (y % 4 == 0 && y % 100 != 0) || y % 400 == 0
def tab (m : Int) : Int := if m = 2 then 28 else if m = 4 ∨ m = 6 ∨ m = 9 ∨ m = 11 then 30 else 31
def days (y m : Int) : Int := if y < 0 ∨ y > 9999 ∨ m < 1 ∨ m > 12 then 0 else if m = 2 ∧ leap y = true then 29 else tab m
theorem days_range (y m : Int) : 0 ≤ days y m ∧ days y m ≤ 31 := by
 unfold days tab
 repeat' split
 all_goals omega
theorem days_zero {y m : Int} (h : 1 ≤ days y m) : 1 ≤ m ∧ m ≤ 12 ∧ 0 ≤ y ∧ y ≤ 9999 := by
 unfold days at h
 split at h
 ·
  omega
 ·
  omega
def at_ (D : List Int) (i : Nat) : Int := D.getD i 0 - 48
def two (D : List Int) (i : Nat) : Int := 10 * at_ D i + at_ D (i + 1)
def yr (D : List Int) : Int := 1000 * at_ D 0 + 100 * at_ D 1 + 10 * at_ D 2 + at_ D 3
def span (D : List Int) (p : Nat) : Int × Int := if p = 4 then (1, 12) else if p = 6 then (1, days (yr D) (two D 4)) else if p = 8 then (0, 23) else (0, 59)
def may (D : List Int) : Bool :=
 if D.length ≤ 4 then true
 else if D.length % 2 = 1 then decide ((span D (D.length - 1)).1 / 10 ≤ at_ D (D.length - 1)) && decide (at_ D (D.length - 1) ≤ (span D (D.length - 1)).2 / 10)
 else decide ((span D (D.length - 2)).1 ≤ two D (D.length - 2)) && decide (two D (D.length - 2) ≤ (span D (D.length - 2)).2)
def okc (D : List Int) : Prop := ∀ j, 4 < j → j ≤ D.length → may (D.take j) = true
theorem at_append (D E : List Int) (i : Nat) (h : i < D.length) : at_ (D ++ E) i = at_ D i := by
 simp [at_, List.getD_eq_getElem?_getD, List.getElem?_append_left h]
theorem at_take (D : List Int) (i j : Nat) (h : i < j) : at_ (D.take j) i = at_ D i := by
 simp [at_, List.getD_eq_getElem?_getD, h]
theorem at_range {D : List Int} (h : Digs D) {i : Nat} (hi : i < D.length) : 0 ≤ at_ D i ∧ at_ D i ≤ 9 := by
 have := h (D[i]) (List.getElem_mem hi)
 obtain ⟨h1, h2⟩ := this
 simp only [at_, List.getD_eq_getElem?_getD, List.getElem?_eq_getElem hi, Option.getD_some]
 omega
theorem two_take (D : List Int) (i j : Nat) (h : i + 1 < j) : two (D.take j) i = two D i := by
 unfold two; rw [at_take _ _ _ zz7, at_take _ _ _ h]
theorem yr_append (D E : List Int) (h : 4 ≤ D.length) : yr (D ++ E) = yr D := by
 unfold yr; rw [at_append _ _ _ zz7, at_append _ _ _ zz7, at_append _ _ _ zz7, at_append _ _ _ zz7]
theorem yr_take (D : List Int) (j : Nat) (h : 4 ≤ j) : yr (D.take j) = yr D := by
 unfold yr; rw [at_take _ _ _ zz7, at_take _ _ _ zz7, at_take _ _ _ zz7, at_take _ _ _ zz7]
theorem span_take (D : List Int) (p j : Nat) (h : p = 6 → 6 ≤ j) : span (D.take j) p = span D p := by
 unfold span
 by_cases h6 : p = 6
 ·
  have := h h6
  rw [yr_take _ _ zz7, two_take _ _ _ zz7]
 ·
  rw [if_neg h6, if_neg h6]
theorem may_odd (D : List Int) (p : Nat) (hp : p % 2 = 0) (h4 : 4 ≤ p) (hl : p < D.length) : may (D.take (p + 1)) = (decide ((span D p).1 / 10 ≤ at_ D p) && decide (at_ D p ≤ (span D p).2 / 10)) := by
 have hlen : (D.take (p + 1)).length = p + 1 := by rw [List.length_take]; omega
 unfold may
 rw [hlen, if_neg zz7, if_pos zz7, show p + 1 - 1 = p from rfl, at_take _ _ _ zz7, span_take _ _ _ zz7]
theorem may_even (D : List Int) (p : Nat) (hp : p % 2 = 0) (h4 : 4 ≤ p) (hl : p + 1 < D.length) : may (D.take (p + 2)) = (decide ((span D p).1 ≤ two D p) && decide (two D p ≤ (span D p).2)) := by
 have hlen : (D.take (p + 2)).length = p + 2 := by rw [List.length_take]; omega
 unfold may
 rw [hlen, if_neg zz7, if_neg zz7, show p + 2 - 2 = p from rfl, two_take _ _ _ zz7, span_take _ _ _ zz7]
theorem okc_take {D : List Int} (h : okc D) (n : Nat) : okc (D.take n) := by
 intro j h1 h2
 rw [List.length_take] at h2
 rw [List.take_take, Nat.min_eq_left zz7]
 exact h j h1 zz7
theorem okc_left {D E : List Int} (h : okc (D ++ E)) : okc D := by
 have := okc_take h D.length
 rwa [List.take_left] at this
theorem okc_short {D : List Int} (h : D.length ≤ 4) : okc D := fun j h1 h2 => by omega
theorem okc_snoc (D : List Int) (b : Int) : okc (D ++ [b]) ↔ okc D ∧ (4 < D.length + 1 → may (D ++ [b]) = true) := by
 constructor
 ·
  intro h
  refine ⟨okc_left h, fun hl => ?_⟩
  have := h (D.length + 1) hl zz43
  rwa [List.take_of_length_le zz43] at this
 ·
  rintro ⟨h1, h2⟩ j hj hl
  rw [List.length_append] at hl
  simp only [List.length_cons, List.length_nil] at hl
  rcases (zz7 : j = D.length + 1 ∨ j ≤ D.length) with rfl | h
  ·
   rw [List.take_of_length_le zz43]; exact h2 hj
  ·
   rw [List.take_append_of_le_length h]; exact h1 j hj h
theorem okc_pair {D : List Int} (h : okc D) (p : Nat) (hp : p % 2 = 0) (h4 : 4 ≤ p) (hl : p + 1 < D.length) : (span D p).1 ≤ two D p ∧ two D p ≤ (span D p).2 := by
 have := h (p + 2) zz7 zz7
 rw [may_even D p hp h4 hl] at this
 simpa using this
def full (D : List Int) : Prop := D.length = 14 ∧ Digs D ∧ 1 ≤ two D 6 ∧ two D 6 ≤ days (yr D) (two D 4) ∧ two D 8 < 24 ∧ two D 10 < 60 ∧ two D 12 < 60
theorem full_okc (D : List Int) (hl : D.length = 14) (hg : Digs D) : full D ↔ okc D := by
 have r := fun i (hi : i < 14) => at_range hg (i := i) zz7
 have e4 : span D 4 = (1, 12) := by simp [span]
 have e6 : span D 6 = (1, days (yr D) (two D 4)) := by simp [span]
 have e8 : span D 8 = (0, 23) := by simp [span]
 have e10 : span D 10 = (0, 59) := by simp [span]
 have e12 : span D 12 = (0, 59) := by simp [span]
 constructor
 ·
  rintro ⟨_, _, h1, h2, h3, h4, h5⟩
  have hm := days_zero (show 1 ≤ days (yr D) (two D 4) by omega)
  have q4 := r 4 zz7; have q5 := r 5 zz7; have q6 := r 6 zz7; have q7 := r 7 zz7; have q8 := r 8 zz7; have q9 := r 9 zz7
  have q10 := r 10 zz7; have q11 := r 11 zz7; have q12 := r 12 zz7; have q13 := r 13 zz7
  have t4 : two D 4 = 10 * at_ D 4 + at_ D 5 := rfl
  have t6 : two D 6 = 10 * at_ D 6 + at_ D 7 := rfl
  have t8 : two D 8 = 10 * at_ D 8 + at_ D 9 := rfl
  have t10 : two D 10 = 10 * at_ D 10 + at_ D 11 := rfl
  have t12 : two D 12 = 10 * at_ D 12 + at_ D 13 := rfl
  intro j hj hj2
  have odd : ∀ p : Nat, p % 2 = 0 → 4 ≤ p → p < 14 → (span D p).1 / 10 ≤ at_ D p → at_ D p ≤ (span D p).2 / 10 → may (D.take (p + 1)) = true := by
   intro p a b c d e
   rw [may_odd D p a b zz7]; simp; exact ⟨d, e⟩
  have even : ∀ p : Nat, p % 2 = 0 → 4 ≤ p → p < 14 → (span D p).1 ≤ two D p → two D p ≤ (span D p).2 → may (D.take (p + 2)) = true := by
   intro p a b c d e
   rw [may_even D p a b zz7]; simp; exact ⟨d, e⟩
  rcases (zz7 : j = 5 ∨ j = 6 ∨ j = 7 ∨ j = 8 ∨ j = 9 ∨ j = 10 ∨ j = 11 ∨ j = 12 ∨ j = 13 ∨ j = 14) with rfl | rfl | rfl | rfl | rfl | rfl | rfl | rfl | rfl | rfl
  ·
   exact odd 4 zz13 zz13 zz13 (by rw [e4]; simp; omega) (by rw [e4]; simp; omega)
  ·
   exact even 4 zz13 zz13 zz13 (by rw [e4]; exact hm.1) (by rw [e4]; exact hm.2.1)
  ·
   exact odd 6 zz13 zz13 zz13 (by rw [e6]; simp; omega) (by rw [e6]; simp; omega)
  ·
   exact even 6 zz13 zz13 zz13 (by rw [e6]; exact h1) (by rw [e6]; exact h2)
  ·
   exact odd 8 zz13 zz13 zz13 (by rw [e8]; simp; omega) (by rw [e8]; simp; omega)
  ·
   exact even 8 zz13 zz13 zz13 (by rw [e8]; simp; omega) (by rw [e8]; simp; omega)
  ·
   exact odd 10 zz13 zz13 zz13 (by rw [e10]; simp; omega) (by rw [e10]; simp; omega)
  ·
   exact even 10 zz13 zz13 zz13 (by rw [e10]; simp; omega) (by rw [e10]; simp; omega)
  ·
   exact odd 12 zz13 zz13 zz13 (by rw [e12]; simp; omega) (by rw [e12]; simp; omega)
  ·
   exact even 12 zz13 zz13 zz13 (by rw [e12]; simp; omega) (by rw [e12]; simp; omega)
 ·
  intro h
  have p6 := okc_pair h 6 zz13 zz13 zz7
  have p8 := okc_pair h 8 zz13 zz13 zz7
  have p10 := okc_pair h 10 zz13 zz13 zz7
  have p12 := okc_pair h 12 zz13 zz13 zz7
  rw [e6] at p6; rw [e8] at p8; rw [e10] at p10; rw [e12] at p12
  simp only at p6 p8 p10 p12
  exact ⟨hl, hg, p6.1, p6.2, zz7, zz7, zz7⟩
def cen (b : Int) : List Int := if b ≥ 53 then [49, 57] else [50, 48]
def pad (D : List Int) : List Int := D ++ List.replicate (4 - D.length) 57
def late (D : List Int) : Bool := decide (2050 ≤ yr (pad D))
abbrev St := List Int × Int
def stp (u : Bool) (s : St) (b : Int) : Option St :=
 if s.2 - 1 = 0 then (if b = 90 then some (s.1, s.2 - 1) else none)
 else if b < 48 ∨ b > 57 then none
 else if (may ((if (u && s.1.isEmpty) = true then cen b else s.1) ++ [b]) && (u || late ((if (u && s.1.isEmpty) = true then cen b else s.1) ++ [b]))) = true then some ((if (u && s.1.isEmpty) = true then cen b else s.1) ++ [b], s.2 - 1) else none
def run (u : Bool) : St → List Int → Option St
 | s, [] => some s
 | s, b :: r => match stp u s b with
   | none => none
   | some s' => run u s' r
theorem run_append (u : Bool) (a b : List Int) : ∀ s, run u s (a ++ b) = (run u s a).bind fun s' => run u s' b := by
 induction a with
 | nil => intro s; rfl
 | cons x a ih =>
   intro s
   simp only [List.cons_append, run]
   cases stp u s x with
   | none => rfl
   | some s' => exact ih s'
theorem run_snoc (u : Bool) (a : List Int) (b : Int) (s : St) : run u s (a ++ [b]) = (run u s a).bind fun s' => stp u s' b := by
 rw [run_append]
 cases run u s a with
 | none => rfl
 | some s' =>
   simp only [Option.bind_some, run]
   cases stp u s' b <;> rfl
theorem run_front (u : Bool) (s : St) (l : List Int) (n : Nat) (h : (run u s l).isSome = true) : (run u s (l.take n)).isSome = true := by
 have := run_append u (l.take n) (l.drop n) s
 rw [List.take_append_drop] at this
 rw [this] at h
 cases hr : run u s (l.take n) with
 | none => rw [hr] at h; simp at h
 | some x => rfl
def F (u : Bool) (p : List Int) : List Int := if u = true then (match p with
 | [] => []
 | b :: r => cen b ++ b :: r) else p
theorem cen_len (b : Int) : (cen b).length = 2 := by unfold cen; split <;> rfl
theorem cen_digs (b : Int) : Digs (cen b) := by
 unfold cen
 split <;> (intro x hx; simp at hx; unfold Dig; omega)
theorem F_snoc (u : Bool) (p : List Int) (b : Int) : F u (p ++ [b]) = (if (u && (F u p).isEmpty) = true then cen b else F u p) ++ [b] := by
 cases u with
 | false => simp [F]
 | true =>
   cases p with
   | nil => simp [F]
   | cons a r =>
     have : (cen a ++ a :: r).isEmpty = false := by unfold cen; split <;> rfl
     simp [F, this]
theorem F_len (u : Bool) (p : List Int) : (F u p).length = if u = true ∧ p ≠ [] then p.length + 2 else p.length := by
 cases u with
 | false => simp [F]
 | true =>
   cases p with
   | nil => simp [F]
   | cons a r => simp [F, cen_len]; omega
theorem F_digs {u : Bool} {p : List Int} (h : Digs p) : Digs (F u p) := by
 cases u with
 | false => simpa [F] using h
 | true =>
   cases p with
   | nil => simpa [F] using h
   | cons a r => simp only [F, if_true]; exact (cen_digs a).append h
theorem pad_full (D : List Int) (h : 4 ≤ D.length) : pad D = D := by unfold pad; rw [show 4 - D.length = 0 by omega]; simp
theorem late_left {D : List Int} {b : Int} (hb : Dig b) (h : late (D ++ [b]) = true) : late D = true := by
 unfold late at h ⊢
 simp only [decide_eq_true_eq] at h ⊢
 obtain ⟨h1, h2⟩ := hb
 by_cases h4 : 4 ≤ D.length
 ·
  rw [pad_full _ h4, ]
  rw [pad_full _ zz73, yr_append _ _ h4] at h
  exact h
 ·
  match D, h4 with
  | [], _ => simp [pad, yr, at_]
  | [a], _ => simp [pad, yr, at_] at h ⊢; omega
  | [a, c], _ => simp [pad, yr, at_] at h ⊢; omega
  | [a, c, d], _ => simp [pad, yr, at_] at h ⊢; omega
  | _ :: _ :: _ :: _ :: _, h4 => simp at h4
def okp (u : Bool) (p : List Int) : Prop := Digs p ∧ okc (F u p) ∧ (u = false → late p = true)
theorem okp_nil (u : Bool) : okp u [] := by
 refine ⟨fun x hx => by simp at hx, okc_short (by rw [F_len]; split <;> simp), fun _ => by decide⟩
theorem okp_snoc (u : Bool) (p : List Int) (b : Int) : okp u (p ++ [b]) ↔ okp u p ∧ Dig b ∧ may (F u (p ++ [b])) = true ∧ (u = false → late (p ++ [b]) = true) := by
 have hlen : may (F u (p ++ [b])) = true ↔ (4 < (if (u && (F u p).isEmpty) = true then cen b else F u p).length + 1 → may ((if (u && (F u p).isEmpty) = true then cen b else F u p) ++ [b]) = true) := by
  rw [F_snoc]
  constructor
  ·
   intro h _; exact h
  ·
   intro h
   by_cases hl : 4 < (if (u && (F u p).isEmpty) = true then cen b else F u p).length + 1
   ·
    exact h hl
   ·
    unfold may; rw [if_pos (by rw [List.length_append]; simp only [List.length_cons, List.length_nil]; omega)]
 have hokc : okc (F u (p ++ [b])) ↔ okc (F u p) ∧ may (F u (p ++ [b])) = true := by
  rw [hlen]
  conv => lhs; rw [F_snoc]
  rw [okc_snoc]
  by_cases he : (u && (F u p).isEmpty) = true
  ·
   rw [if_pos he]
   have : F u p = [] := by simp at he; exact he.2
   rw [this]
   exact ⟨fun h => ⟨okc_short zz43, h.2⟩, fun h => ⟨okc_short (by rw [cen_len]; omega), h.2⟩⟩
  ·
   rw [if_neg he]
 unfold okp
 rw [hokc]
 constructor
 ·
  rintro ⟨h1, ⟨h2, h3⟩, h4⟩
  have hb : Dig b := h1 b zz43
  exact ⟨⟨h1.left, h2, fun hu => late_left hb (h4 hu)⟩, hb, h3, h4⟩
 ·
  rintro ⟨⟨h1, h2, _⟩, hb, h3, h4⟩
  refine ⟨h1.append (fun x hx => ?_), ⟨h2, h3⟩, h4⟩
  simp at hx; rw [hx]; exact hb
theorem rev_ind {P : List Int → Prop} (h0 : P []) (h1 : ∀ l x, P l → P (l ++ [x])) : ∀ l, P l := by
 have : ∀ l : List Int, P l.reverse := by
  intro l
  induction l with
  | nil => exact h0
  | cons a r ih => rw [List.reverse_cons]; exact h1 _ _ ih
 intro l
 rw [← List.reverse_reverse l]; exact this _
theorem run_okp (u : Bool) (n : Int) : ∀ (p : List Int), (p.length : Int) < n → (okp u p → run u ([], n) p = some (F u p, n - p.length)) ∧ (¬ okp u p → run u ([], n) p = none) := by
 refine rev_ind (P := fun p => (p.length : Int) < n → (okp u p → run u ([], n) p = some (F u p, n - p.length)) ∧ (¬ okp u p → run u ([], n) p = none)) ?_ ?_
 ·
  intro _
  refine ⟨fun _ => ?_, fun h => absurd (okp_nil u) h⟩
  simp [run, F]
 ·
  intro p b ih hl
  rw [List.length_append] at hl
  simp only [List.length_cons, List.length_nil] at hl
  obtain ⟨i1, i2⟩ := ih zz7
  rw [run_snoc, okp_snoc]
  by_cases hp : okp u p
  ·
   rw [i1 hp]
   simp only [Option.bind_some]
   unfold stp
   rw [if_neg (by simp only; omega)]
   simp only
   rw [← F_snoc]
   by_cases hb : b < 48 ∨ b > 57
   ·
    rw [if_pos hb]
    exact ⟨fun h => absurd h.2.1 (by unfold Dig; omega), fun _ => rfl⟩
   ·
    rw [if_neg hb]
    have hdig : Dig b := by unfold Dig; omega
    have hlate : (u || late (F u (p ++ [b]))) = true ↔ (u = false → late (p ++ [b]) = true) := by
     cases u <;> simp [F]
    by_cases hm : (may (F u (p ++ [b])) && (u || late (F u (p ++ [b])))) = true
    ·
     rw [if_pos hm]
     rw [Bool.and_eq_true, hlate] at hm
     refine ⟨fun _ => ?_, fun h => absurd ⟨hp, hdig, hm.1, hm.2⟩ h⟩
     rw [List.length_append]; simp; omega
    ·
     rw [if_neg hm]
     rw [Bool.and_eq_true, hlate] at hm
     exact ⟨fun h => absurd ⟨h.2.2.1, h.2.2.2⟩ hm, fun _ => rfl⟩
  ·
   rw [i2 hp]
   exact ⟨fun h => absurd h.1 hp, fun _ => rfl⟩
theorem run_last (u : Bool) (n : Int) (p : List Int) (z : Int) (hl : (p.length : Int) + 1 = n) : (okp u p ∧ z = 90 → run u ([], n) (p ++ [z]) = some (F u p, 0)) ∧ (¬ (okp u p ∧ z = 90) → run u ([], n) (p ++ [z]) = none) := by
 obtain ⟨i1, i2⟩ := run_okp u n p zz7
 rw [run_snoc]
 by_cases hp : okp u p
 ·
  rw [i1 hp]
  simp only [Option.bind_some]
  unfold stp
  rw [if_pos (by simp only; omega)]
  by_cases hz : z = 90
  ·
   rw [if_pos hz]
   exact ⟨fun _ => by simp only; rw [show n - (p.length : Int) - 1 = 0 by omega], fun h => absurd ⟨hp, hz⟩ h⟩
  ·
   rw [if_neg hz]
   exact ⟨fun h => absurd h.2 hz, fun _ => rfl⟩
 ·
  rw [i2 hp]
  exact ⟨fun h => absurd h.1 hp, fun _ => rfl⟩
end Go.Proofs.Ytgddaddoabjgiaa.Dt
namespace Go.Proofs.Ytgddaddoabjgiaa.PB
open RowKit YtgddaddoabjgiaaW.PrintWords YtgddaddoabjgiaaW.PrintLast YtgddaddoabjgiaaW.PrintMore
attribute [local go_sem] max2_int min2_int max_two min_two max_three min_three max_four min_four
set_option linter.unusedVariables false
set_option linter.unusedSimpArgs false
def encode_integer.l0 : Nat → ByteArray → Bool → Int → Int → Int → Int → Int → Option (Bool)
 | 0, _, _, _, _, _, _, _ => none
 | k + 1, x0, x4, x5, x157000, x157001, x157002, x157003 => if x4 = true then (if x5 < (x0.size : Int) then (if 0 ≤ x5 then ((number_State_Push.f k x157000 x157001 x157002 x157003 (bt x0 x5)).bind fun bt157 => (encode_integer.l0 k x0 bt157.2.2.2.2 (wrap64 (x5 + 1)) bt157.1 bt157.2.1 bt157.2.2.1 bt157.2.2.2.1)) else (none)) else (some x4)) else (some x4)
def encode_integer.f (k : Nat) (a0 : ByteArray) : Option (Bool) := (number_Start.f k 2 (a0.size : Int)).bind fun bt151 => (encode_integer.l0 k a0 bt151.2.2.2.2 0 bt151.1 bt151.2.1 bt151.2.2.1 bt151.2.2.2.1)
def encode_integer.T5 : Bool × List (List Nat × List Nat) := (true, [([], []), ([], []), ([], []), ([1, 2], [1, 2]), ([0, 3], [0, 3]), ([4], [4]), ([5], [5]), ([5], [5]), ([6, 4, 0, 1, 2, 3, 4, 5, 6], [6]), ([7, 8, 0, 1, 2, 3, 4, 5, 6, 7, 8], [7])])
def encode_integer.B5 : List Nat := [0, 0, 0, 6, 15, 31, 63, 63, 127, 511]
theorem encode_integer.tab5 : rtab .any (opsOf Try.f73 5) = encode_integer.T5 := by kernel_rfl
theorem encode_integer.bits5 : waitsOk encode_integer.T5.2 encode_integer.B5 = true := by kernel_rfl
set_option maxHeartbeats 8000000 in
set_option maxRecDepth 100000 in
theorem encode_integer.calls (k : Nat) (a0 : ByteArray) (r : Bool) (w : World) (h : encode_integer.f k a0 = some r) :
 Calls Try.prog 73 #[.string a0] w fun e w' => e = .returned (.bool r) ∧ Below w.heap.size w w' := by
 have hu125 := Try.underlying125
 have HB := Aside0.mk (Below.refl w.heap.size w)
 have H : ((number_Start.f k 2 (a0.size : Int)).bind fun bt151 => (encode_integer.l0 k a0 bt151.2.2.2.2 0 bt151.1 bt151.2.1 bt151.2.2.1 bt151.2.2.2.1)) = some r := h
 clear h
 replace H := Option.bind_eq_some_iff.mp H
 obtain ⟨⟨t151, t152, t153, t154, t155⟩, A20, H⟩ := H
 replace H : (encode_integer.l0 k a0 t155 0 t151 t152 t153 t154) = some r := H
 have A2 := Aside0.mk A20
 clear A20
 have H' := Aside0.mk H
 clear H
 go_enter Try.func73, Try.ntmps73
 go_wp2_with (first | ((with_reducible refine gate_callee (f := 87) rfl ?_); refine goesL_ (some 9) rfl rfl Try.func87 zz4 rfl #[.int .i64 2, .int .i64 (a0.size : Int)] rfl zz5 ?_; (with_reducible refine (number_Start.calls k 2 (a0.size : Int) t151 t152 t153 t154 t155 _ A2.out).mono ?_); rintro e w3 ⟨rfl, hb⟩; refine ⟨_, rfl, ?_⟩; have n0_ := Aside0.mk (below_step zz1 hb); clear HB; have HB := n0_; clear n0_; (try clear hb); (try clear hb2); (try clear hk); (try clear hi)) | ((with_reducible refine gate_dst (N := 3) rfl ?_); (try (refine gate_guard zz54 ?_; dsimp only)); refine zzbx (N := 3) (cs := #[.int .i64 0, .int .i64 0, .int .i64 0, .int .u8 0]) (t := 125) ?_; intro gb156 hg w4 hbox hb; have n0_ := Aside0.mk (below_step zz1 hb); have n1_ := Aside0.mk (hbox); have n2_ := Aside0.mk ((zz15 : w.heap.size ≤ gb156)); have n3_ := Aside0.mk ((zz15 : w.heap.size ≤ gb156)); clear HB; have HB := n0_; have BK156 := n1_; have GW156 := n2_; have GE156 := n3_; clear n0_ n1_ n2_ n3_; clear hb hbox hg; have hcz5_0 : w4.cell? ⟨gb156, 0, none⟩ = some (.int .i64 0) := (blk_cell BK156.out 0).trans rfl; have hcz5_1 : w4.cell? ⟨gb156, 1, none⟩ = some (.int .i64 0) := (blk_cell BK156.out 1).trans rfl; have hcz5_2 : w4.cell? ⟨gb156, 2, none⟩ = some (.int .i64 0) := (blk_cell BK156.out 2).trans rfl; have hcz5_3 : w4.cell? ⟨gb156, 3, none⟩ = some (.int .u8 0) := (blk_cell BK156.out 3).trans rfl; have hfz5_0 := blk_frozen BK156.out 0; have hfz5_1 := blk_frozen BK156.out 1; have hfz5_2 := blk_frozen BK156.out 2; have hfz5_3 := blk_frozen BK156.out 3))
 go_loopg [4, 5] k (fun kq v4 v5 w' => ∃ (x4_1 : Bool) (x5_1 : Int) (x157000_1 : Int) (x157001_1 : Int) (x157002_1 : Int) (x157003_1 : Int), v4 = .bool x4_1 ∧ v5 = .int .i64 x5_1 ∧ Aside0 (encode_integer.l0 kq a0 x4_1 x5_1 x157000_1 x157001_1 x157002_1 x157003_1 = some r) ∧ Aside0 (kq ≤ k) ∧ Aside0 (w'.heap[gb156]? = some (.cells #[.int .i64 x157000_1, .int .i64 x157001_1, .int .i64 x157002_1, .int .u8 x157003_1] 125 (0, 0))) ∧ Aside0 (Below w.heap.size w w'))
 case atStart => exact ⟨(t155), (0), (t151), (t152), (t153), (t154), zz0, zz0, H', ⟨Nat.le_refl _⟩, ⟨by (with_reducible repeat (first | refine blk_drewN ?_ _ | refine blk_drew ?_ | refine blk_alloc ?_ _)); refine blk_put (cs := #[.int .i64 t151, .int .i64 t152, .int .i64 t153, .int .u8 0]) ?_ 3 _ rfl; (with_reducible repeat (first | refine blk_drewN ?_ _ | refine blk_drew ?_ | refine blk_alloc ?_ _)); refine blk_put (cs := #[.int .i64 t151, .int .i64 t152, .int .i64 0, .int .u8 0]) ?_ 2 _ rfl; (with_reducible repeat (first | refine blk_drewN ?_ _ | refine blk_drew ?_ | refine blk_alloc ?_ _)); refine blk_put (cs := #[.int .i64 t151, .int .i64 0, .int .i64 0, .int .u8 0]) ?_ 1 _ rfl; (with_reducible repeat (first | refine blk_drewN ?_ _ | refine blk_drew ?_ | refine blk_alloc ?_ _)); refine blk_put (cs := #[.int .i64 0, .int .i64 0, .int .i64 0, .int .u8 0]) ?_ 0 _ rfl; (with_reducible repeat (first | refine blk_drewN ?_ _ | refine blk_drew ?_ | refine blk_alloc ?_ _)); exact BK156.out⟩, ⟨zz50⟩⟩
 case round =>
  clear H'
  try clear p2
  try clear hcz5_0
  try clear hcz5_1
  try clear hcz5_2
  try clear hcz5_3
  try clear hfz5_0
  try clear hfz5_1
  try clear hfz5_2
  try clear hfz5_3
  obtain ⟨x4_1, x5_1, x157000_1, x157001_1, x157002_1, x157003_1, rfl, rfl, HA, HK1, BK156, HB⟩ := hrel
  cases gk with
  | zero => exact absurd HA.out (by simp [encode_integer.l0])
  | succ k1 =>
    have H := HA.out
    clear HA
    simp only [encode_integer.l0] at H
    by_cases c6 : x4_1 = true
    ·
     subst c6
     have H1 : (if x5_1 < (a0.size : Int) then (if 0 ≤ x5_1 then ((number_State_Push.f k1 x157000_1 x157001_1 x157002_1 x157003_1 (bt a0 x5_1)).bind fun bt157 => (encode_integer.l0 k1 a0 bt157.2.2.2.2 (wrap64 (x5_1 + 1)) bt157.1 bt157.2.1 bt157.2.2.1 bt157.2.2.2.1)) else (none)) else (some true)) = some r := by rw [if_pos rfl] at H; exact H
     clear H
     have H := H1
     clear H1
     by_cases c7 : x5_1 < (a0.size : Int)
     ·
      rw [if_pos c7] at H
      have c7b0 : decide (x5_1 < (a0.size : Int)) = true := decide_eq_true c7
      clear c7
      by_cases c8 : 0 ≤ x5_1
      ·
       rw [if_pos c8] at H
       have c8b0 : decide (0 ≤ x5_1) = true := decide_eq_true c8
       clear c8
       replace H := Option.bind_eq_some_iff.mp H
       obtain ⟨⟨t157, t158, t159, t160, t161⟩, A100, H⟩ := H
       replace H : (encode_integer.l0 k1 a0 t161 (wrap64 (x5_1 + 1)) t157 t158 t159 t160) = some r := H
       have A10 := Aside0.mk A100
       clear A100
       have H' := Aside0.mk H
       clear H
       try go_wp2
       have n0_ := Aside0.mk (blk_drew BK156.out)
       have n1_ := Aside0.mk (below_drew1 HB.out)
       clear BK156
       clear HB
       have BK156 := n0_
       have HB := n1_
       clear n0_ n1_
       have p9 : 0 ≤ (x5_1 : Int) := of_decide_eq_true zz6
       have q9 : x5_1 < (a0.size : Int) := of_decide_eq_true zz6
       have hx9 := bt_at a0 x5_1
       replace p9 := eq_true p9
       replace q9 := eq_true q9
       refine start_ (n := 10) (S := fun w' => w'.cell? ⟨gb156, 0, none⟩ = some (.int .i64 x157000_1) ∧ w'.cell? ⟨gb156, 1, none⟩ = some (.int .i64 x157001_1) ∧ w'.cell? ⟨gb156, 2, none⟩ = some (.int .i64 x157002_1) ∧ w'.cell? ⟨gb156, 3, none⟩ = some (.int .u8 x157003_1)) (ds := [8]) #[false, false, false, false, false, false, false, false, false, false] zz4 rfl rfl ⟨(blk_cell BK156.out 0).trans rfl, (blk_cell BK156.out 1).trans rfl, (blk_cell BK156.out 2).trans rfl, (blk_cell BK156.out 3).trans rfl⟩ (fun hHeld => ?_); refine with_tabW encode_integer.tab5 encode_integer.bits5 (fun HT_ HW_ => ?_)
       generalize wr.drew = w11 at BK156 HB hHeld ⊢
       refine pure_ (i := 1) (N := some 23) (v := ?_) (a' := ?_) #[false, true, false, false, false, false, false, false, false, false] rfl rfl (any_of HT_.out zz4) (fun _ _ _ h => h) (Or.inl ⟨zz54, ?_⟩) ?_ ?_
       rotate_left
       ·
        intro w'
        go_simp
        with_reducible rfl
       rotate_left
       ·
        simp only [Act.put, List.setIfInBounds_toArray, List.set_cons_zero, List.set_cons_succ, i64_w, i32_w]
        rfl
       refine pure_ (i := 2) (N := some 24) (v := ?_) (a' := ?_) #[false, true, true, false, false, false, false, false, false, false] rfl rfl (any_of HT_.out zz4) (fun _ _ _ h => h) (Or.inl ⟨zz54, ?_⟩) ?_ ?_
       rotate_left
       ·
        intro w'
        go_simp
        with_reducible rfl
       rotate_left
       ·
        simp only [Act.put, List.setIfInBounds_toArray, List.set_cons_zero, List.set_cons_succ, i64_w, i32_w]
        rfl
       refine take_ (i := 0) (N := some 22) (v := ?_) (a' := ?_) #[true, true, true, false, false, false, false, false, false, false] rfl rfl (take_ofW HT_.out HW_.out zz4) (fun _ _ _ h => h) (Or.inl ⟨zz54, ?_⟩) hHeld ?_ ?_
       rotate_left
       ·
        rintro w' ⟨s0, s1, s2, s3⟩
        go_simp
        with_reducible rfl
       rotate_left
       ·
        simp only [Act.put, List.setIfInBounds_toArray, List.set_cons_zero, List.set_cons_succ, i64_w, i32_w]
        rfl
       refine take_ (i := 3) (N := some 25) (v := ?_) (a' := ?_) #[true, true, true, true, false, false, false, false, false, false] rfl rfl (take_ofW HT_.out HW_.out zz4) (fun _ _ _ h => h) (Or.inl ⟨zz54, ?_⟩) hHeld ?_ ?_
       rotate_left
       ·
        rintro w' ⟨s0, s1, s2, s3⟩
        go_simp
        with_reducible rfl
       rotate_left
       ·
        simp only [Act.put, List.setIfInBounds_toArray, List.set_cons_zero, List.set_cons_succ, i64_w, i32_w]
        rfl
       refine one_ (i := 4) (N := some 26) #[true, true, true, true, true, false, false, false, false, false] rfl rfl (one_of HT_.out zz4) zz13 (fun K hK => ?_)
       refine goes_ Try.func88 zz4 rfl #[.agg #[.int .i64 x157000_1, .int .i64 x157001_1, .int .i64 x157002_1, .int .u8 x157003_1], .int .u8 (bt a0 x5_1)] zz54 rfl rfl zz5 ?_
       with_reducible refine (number_State_Push.calls k1 x157000_1 x157001_1 x157002_1 x157003_1 (bt a0 x5_1) t157 t158 t159 t160 t161 _ A10.out).mono ?_
       rintro e w12 ⟨rfl, hb⟩
       refine ⟨_, rfl, ?_⟩
       have n0_ := Aside0.mk (blk_below (g := gb156) (o := .cells #[.int .i64 x157000_1, .int .i64 x157001_1, .int .i64 x157002_1, .int .u8 x157003_1] 125 (0, 0)) (by (with_reducible repeat (first | refine blk_drewN ?_ _ | refine blk_drew ?_ | refine blk_alloc ?_ _)); exact BK156.out) hb)
       have n1_ := Aside0.mk (below_step zz50 hb)
       clear BK156
       clear HB
       have BK156 := n0_
       have HB := n1_
       clear n0_ n1_
       (try clear hb)
       (try clear hb2)
       (try clear hk)
       (try clear hi)
       refine hK.out _ _ ⟨(blk_cell BK156.out 0).trans rfl, (blk_cell BK156.out 1).trans rfl, (blk_cell BK156.out 2).trans rfl, (blk_cell BK156.out 3).trans rfl⟩ (fun hHeld => ?_)
       clear hK K
       refine norm_ (a' := ?_) ?_ ?_
       rotate_left
       ·
        show Act.put _ (some 26) _ = _
        simp only [Act.put, List.setIfInBounds_toArray, List.set_cons_zero, List.set_cons_succ, i64_w, i32_w]
        rfl
       refine pure_ (i := 5) (N := some 21) (v := ?_) (a' := ?_) #[true, true, true, true, true, true, false, false, false, false] rfl rfl (any_of HT_.out zz4) (fun _ _ _ h => h) (Or.inl ⟨zz54, ?_⟩) ?_ ?_
       rotate_left
       ·
        intro w'
        go_simp
        with_reducible rfl
       rotate_left
       ·
        simp only [Act.put, List.setIfInBounds_toArray, List.set_cons_zero, List.set_cons_succ, i64_w, i32_w]
        rfl
       refine pure_ (i := 6) (N := some 27) (v := ?_) (a' := ?_) #[true, true, true, true, true, true, true, false, false, false] rfl rfl (any_of HT_.out zz4) (fun _ _ _ h => h) (Or.inl ⟨zz54, ?_⟩) ?_ ?_
       rotate_left
       ·
        intro w'
        go_simp
        with_reducible rfl
       rotate_left
       ·
        simp only [Act.put, List.setIfInBounds_toArray, List.set_cons_zero, List.set_cons_succ, i64_w, i32_w]
        rfl
       refine pure_ (i := 7) (N := some 28) (v := ?_) (a' := ?_) #[true, true, true, true, true, true, true, true, false, false] rfl rfl (any_of HT_.out zz4) (fun _ _ _ h => h) (Or.inl ⟨zz54, ?_⟩) ?_ ?_
       rotate_left
       ·
        intro w'
        go_simp
        with_reducible rfl
       rotate_left
       ·
        simp only [Act.put, List.setIfInBounds_toArray, List.set_cons_zero, List.set_cons_succ, i64_w, i32_w]
        rfl
       refine last_ (i := 8) (N := none) #[true, true, true, true, true, true, true, true, true, false] rfl rfl (one_of HT_.out zz4) zz13 (fun K hK => ?_)
       have hs13 : w12.cell? ⟨gb156, 0, none⟩ = some (.int .i64 x157000_1) := (blk_cell BK156.out 0).trans rfl
       have hfs13 := blk_frozen BK156.out 0
       have hs14 : w12.cell? ⟨gb156, 1, none⟩ = some (.int .i64 x157001_1) := (blk_cell BK156.out 1).trans rfl
       have hfs14 := blk_frozen BK156.out 1
       have hs15 : w12.cell? ⟨gb156, 2, none⟩ = some (.int .i64 x157002_1) := (blk_cell BK156.out 2).trans rfl
       have hfs15 := blk_frozen BK156.out 2
       have hs16 : w12.cell? ⟨gb156, 3, none⟩ = some (.int .u8 x157003_1) := (blk_cell BK156.out 3).trans rfl
       have hfs16 := blk_frozen BK156.out 3
       refine skip_ (w1 := ?_) zz54 rfl ?_ ?_
       rotate_left
       ·
        go_simp
        rfl
       refine hK.out _ _ ?_
       clear hK K
       refine pure_ (i := 9) (N := some 4) (v := ?_) (a' := ?_) #[true, true, true, true, true, true, true, true, true, true] rfl rfl (any_of HT_.out zz4) (fun _ _ _ h => h) (Or.inl ⟨zz54, ?_⟩) ?_ ?_
       rotate_left
       ·
        intro w'
        go_simp
        with_reducible rfl
       rotate_left
       ·
        simp only [Act.put, List.setIfInBounds_toArray, List.set_cons_zero, List.set_cons_succ, i64_w, i32_w]
        rfl
       refine done_ (done_of HT_.out zz4) ?_
       try go_wp2
       go_roundg k1
       case measure => have := HK1.out; omega
       case rel => exact ⟨(t161), (wrap64 (x5_1 + 1)), (t157), (t158), (t159), (t160), zz0, zz0, H', ⟨zz68⟩, ⟨by (with_reducible repeat (first | refine blk_drewN ?_ _ | refine blk_drew ?_ | refine blk_alloc ?_ _)); refine blk_put (cs := #[.int .i64 t157, .int .i64 t158, .int .i64 t159, .int .u8 x157003_1]) ?_ 3 _ rfl; (with_reducible repeat (first | refine blk_drewN ?_ _ | refine blk_drew ?_ | refine blk_alloc ?_ _)); refine blk_put (cs := #[.int .i64 t157, .int .i64 t158, .int .i64 x157002_1, .int .u8 x157003_1]) ?_ 2 _ rfl; (with_reducible repeat (first | refine blk_drewN ?_ _ | refine blk_drew ?_ | refine blk_alloc ?_ _)); refine blk_put (cs := #[.int .i64 t157, .int .i64 x157001_1, .int .i64 x157002_1, .int .u8 x157003_1]) ?_ 1 _ rfl; (with_reducible repeat (first | refine blk_drewN ?_ _ | refine blk_drew ?_ | refine blk_alloc ?_ _)); refine blk_put (cs := #[.int .i64 x157000_1, .int .i64 x157001_1, .int .i64 x157002_1, .int .u8 x157003_1]) ?_ 0 _ rfl; (with_reducible repeat (first | refine blk_drewN ?_ _ | refine blk_drew ?_ | refine blk_alloc ?_ _)); exact BK156.out⟩, ⟨zz50⟩⟩
      ·
       rw [if_neg c8] at H
       exact absurd H zz43
     ·
      rw [if_neg c7] at H
      have c7b0 : decide (x5_1 < (a0.size : Int)) = false := decide_eq_false c7
      clear c7
      obtain rfl := Option.some.inj H
      go_wp2
      go_ret
      exact ⟨zz3, zz50⟩
    ·
     replace c6 := Bool.eq_false_iff.mpr c6
     subst c6
     have H1 : (some false) = some r := by rw [if_neg (show ¬ (false = true) by decide)] at H; exact H
     clear H
     have H := H1
     clear H1
     obtain rfl := Option.some.inj H
     go_wp2
     go_ret
     exact ⟨zz3, zz50⟩
def when_Start.f (a0 : Int) (a1 : Int) : Option (ByteArray × Int × Bool × Bool) := if a0 = 23 then (if a1 = 13 then (if a0 = 24 then (if a1 = 15 then (some ((⟨#[]⟩ : ByteArray), a1, true, true)) else (some ((⟨#[]⟩ : ByteArray), 0, false, false))) else (some ((⟨#[]⟩ : ByteArray), a1, true, true))) else (some ((⟨#[]⟩ : ByteArray), 0, false, false))) else (if a0 = 24 then (if a1 = 15 then (some ((⟨#[]⟩ : ByteArray), a1, false, true)) else (some ((⟨#[]⟩ : ByteArray), 0, false, false))) else (some ((⟨#[]⟩ : ByteArray), 0, false, false)))
set_option maxHeartbeats 8000000 in
set_option maxRecDepth 100000 in
theorem when_Start.calls (a0 : Int) (a1 : Int) (r1 : ByteArray) (r2 : Int) (r3 : Bool) (r4 : Bool) (w : World) (h : when_Start.f a0 a1 = some (r1, r2, r3, r4)) :
 Calls Try.prog 85 #[.int .i64 a0, .int .i64 a1] w fun e w' => e = .returned (.tuple #[.agg #[.string r1, .int .i64 r2, .bool r3], .bool r4]) ∧ Below w.heap.size w w' := by
 have hu120 := Try.underlying120
 have HB := Aside0.mk (Below.refl w.heap.size w)
 have H : (if a0 = 23 then (if a1 = 13 then (if a0 = 24 then (if a1 = 15 then (some ((⟨#[]⟩ : ByteArray), a1, true, true)) else (some ((⟨#[]⟩ : ByteArray), 0, false, false))) else (some ((⟨#[]⟩ : ByteArray), a1, true, true))) else (some ((⟨#[]⟩ : ByteArray), 0, false, false))) else (if a0 = 24 then (if a1 = 15 then (some ((⟨#[]⟩ : ByteArray), a1, false, true)) else (some ((⟨#[]⟩ : ByteArray), 0, false, false))) else (some ((⟨#[]⟩ : ByteArray), 0, false, false)))) = some (r1, r2, r3, r4) := h
 clear h
 by_cases c3 : a0 = 23
 ·
  rw [if_pos c3] at H
  have c3b0 : (a0 == 23) = true := beq_iff_eq.mpr c3
  have c3b1 : (a0 != 23) = false := bne_eq_false_iff_eq.mpr c3
  clear c3
  by_cases c4 : a1 = 13
  ·
   rw [if_pos c4] at H
   have c4b0 : (a1 == 13) = true := beq_iff_eq.mpr c4
   have c4b1 : (a1 != 13) = false := bne_eq_false_iff_eq.mpr c4
   clear c4
   by_cases c5 : a0 = 24
   ·
    rw [if_pos c5] at H
    have c5b0 : (a0 == 24) = true := beq_iff_eq.mpr c5
    have c5b1 : (a0 != 24) = false := bne_eq_false_iff_eq.mpr c5
    clear c5
    by_cases c6 : a1 = 15
    ·
     rw [if_pos c6] at H
     have c6b0 : (a1 == 15) = true := beq_iff_eq.mpr c6
     have c6b1 : (a1 != 15) = false := bne_eq_false_iff_eq.mpr c6
     clear c6
     simp only [Option.some.injEq, Prod.mk.injEq] at H
     obtain ⟨rfl, rfl, rfl, rfl⟩ := H
     go_enter Try.func85, Try.ntmps85
     go_wp2_with (first | ((with_reducible refine gate_dst (N := 4) rfl ?_); refine zzbx (N := 4) (cs := #[.string (⟨#[]⟩ : ByteArray), .int .i64 0, .bool false]) (t := 120) ?_; intro gb162 hg w7 hbox hb; have n0_ := Aside0.mk (below_step zz1 hb); have n1_ := Aside0.mk (hbox); have n2_ := Aside0.mk ((zz15 : w.heap.size ≤ gb162)); have n3_ := Aside0.mk ((zz15 : w.heap.size ≤ gb162)); clear HB; have HB := n0_; have BK162 := n1_; have GW162 := n2_; have GE162 := n3_; clear n0_ n1_ n2_ n3_; clear hb hbox hg; have hcz8_0 : w7.cell? ⟨gb162, 0, none⟩ = some (.string (⟨#[]⟩ : ByteArray)) := (blk_cell BK162.out 0).trans rfl; have hcz8_1 : w7.cell? ⟨gb162, 1, none⟩ = some (.int .i64 0) := (blk_cell BK162.out 1).trans rfl; have hcz8_2 : w7.cell? ⟨gb162, 2, none⟩ = some (.bool false) := (blk_cell BK162.out 2).trans rfl; have hfz8_0 := blk_frozen BK162.out 0; have hfz8_1 := blk_frozen BK162.out 1; have hfz8_2 := blk_frozen BK162.out 2))
     refine bodyPost_ret (results_ct rfl _ _ gb162 120 #[.string (⟨#[]⟩ : ByteArray), .int .i64 a1, .bool true] (0, 0) _ rfl zz36 Try.underlying120 rfl zz4) rfl ?_
     exact ⟨zz3, zz44⟩
    ·
     rw [if_neg c6] at H
     have c6b0 : (a1 == 15) = false := beq_eq_false_iff_ne.mpr c6
     have c6b1 : (a1 != 15) = true := bne_iff_ne.mpr c6
     simp only [Option.some.injEq, Prod.mk.injEq] at H
     obtain ⟨rfl, rfl, rfl, rfl⟩ := H
     go_enter Try.func85, Try.ntmps85
     go_wp2_with (first | ((with_reducible refine gate_dst (N := 4) rfl ?_); refine zzbx (N := 4) (cs := #[.string (⟨#[]⟩ : ByteArray), .int .i64 0, .bool false]) (t := 120) ?_; intro gb162 hg w9 hbox hb; have n0_ := Aside0.mk (below_step zz1 hb); have n1_ := Aside0.mk (hbox); have n2_ := Aside0.mk ((zz15 : w.heap.size ≤ gb162)); have n3_ := Aside0.mk ((zz15 : w.heap.size ≤ gb162)); clear HB; have HB := n0_; have BK162 := n1_; have GW162 := n2_; have GE162 := n3_; clear n0_ n1_ n2_ n3_; clear hb hbox hg; have hcz10_0 : w9.cell? ⟨gb162, 0, none⟩ = some (.string (⟨#[]⟩ : ByteArray)) := (blk_cell BK162.out 0).trans rfl; have hcz10_1 : w9.cell? ⟨gb162, 1, none⟩ = some (.int .i64 0) := (blk_cell BK162.out 1).trans rfl; have hcz10_2 : w9.cell? ⟨gb162, 2, none⟩ = some (.bool false) := (blk_cell BK162.out 2).trans rfl; have hfz10_0 := blk_frozen BK162.out 0; have hfz10_1 := blk_frozen BK162.out 1; have hfz10_2 := blk_frozen BK162.out 2))
     refine bodyPost_ret (results_ct rfl _ _ gb162 120 #[.string (⟨#[]⟩ : ByteArray), .int .i64 0, .bool false] (0, 0) _ rfl zz23 Try.underlying120 rfl zz4) rfl ?_
     exact ⟨zz3, zz44⟩
   ·
    rw [if_neg c5] at H
    have c5b0 : (a0 == 24) = false := beq_eq_false_iff_ne.mpr c5
    have c5b1 : (a0 != 24) = true := bne_iff_ne.mpr c5
    simp only [Option.some.injEq, Prod.mk.injEq] at H
    obtain ⟨rfl, rfl, rfl, rfl⟩ := H
    go_enter Try.func85, Try.ntmps85
    go_wp2_with (first | ((with_reducible refine gate_dst (N := 4) rfl ?_); refine zzbx (N := 4) (cs := #[.string (⟨#[]⟩ : ByteArray), .int .i64 0, .bool false]) (t := 120) ?_; intro gb162 hg w11 hbox hb; have n0_ := Aside0.mk (below_step zz1 hb); have n1_ := Aside0.mk (hbox); have n2_ := Aside0.mk ((zz15 : w.heap.size ≤ gb162)); have n3_ := Aside0.mk ((zz15 : w.heap.size ≤ gb162)); clear HB; have HB := n0_; have BK162 := n1_; have GW162 := n2_; have GE162 := n3_; clear n0_ n1_ n2_ n3_; clear hb hbox hg; have hcz12_0 : w11.cell? ⟨gb162, 0, none⟩ = some (.string (⟨#[]⟩ : ByteArray)) := (blk_cell BK162.out 0).trans rfl; have hcz12_1 : w11.cell? ⟨gb162, 1, none⟩ = some (.int .i64 0) := (blk_cell BK162.out 1).trans rfl; have hcz12_2 : w11.cell? ⟨gb162, 2, none⟩ = some (.bool false) := (blk_cell BK162.out 2).trans rfl; have hfz12_0 := blk_frozen BK162.out 0; have hfz12_1 := blk_frozen BK162.out 1; have hfz12_2 := blk_frozen BK162.out 2))
    refine bodyPost_ret (results_ct rfl _ _ gb162 120 #[.string (⟨#[]⟩ : ByteArray), .int .i64 a1, .bool true] (0, 0) _ rfl zz36 Try.underlying120 rfl zz4) rfl ?_
    exact ⟨zz3, zz44⟩
  ·
   rw [if_neg c4] at H
   have c4b0 : (a1 == 13) = false := beq_eq_false_iff_ne.mpr c4
   have c4b1 : (a1 != 13) = true := bne_iff_ne.mpr c4
   simp only [Option.some.injEq, Prod.mk.injEq] at H
   obtain ⟨rfl, rfl, rfl, rfl⟩ := H
   go_enter Try.func85, Try.ntmps85
   go_wp2_with (first | ((with_reducible refine gate_dst (N := 4) rfl ?_); refine zzbx (N := 4) (cs := #[.string (⟨#[]⟩ : ByteArray), .int .i64 0, .bool false]) (t := 120) ?_; intro gb162 hg w13 hbox hb; have n0_ := Aside0.mk (below_step zz1 hb); have n1_ := Aside0.mk (hbox); have n2_ := Aside0.mk ((zz15 : w.heap.size ≤ gb162)); have n3_ := Aside0.mk ((zz15 : w.heap.size ≤ gb162)); clear HB; have HB := n0_; have BK162 := n1_; have GW162 := n2_; have GE162 := n3_; clear n0_ n1_ n2_ n3_; clear hb hbox hg; have hcz14_0 : w13.cell? ⟨gb162, 0, none⟩ = some (.string (⟨#[]⟩ : ByteArray)) := (blk_cell BK162.out 0).trans rfl; have hcz14_1 : w13.cell? ⟨gb162, 1, none⟩ = some (.int .i64 0) := (blk_cell BK162.out 1).trans rfl; have hcz14_2 : w13.cell? ⟨gb162, 2, none⟩ = some (.bool false) := (blk_cell BK162.out 2).trans rfl; have hfz14_0 := blk_frozen BK162.out 0; have hfz14_1 := blk_frozen BK162.out 1; have hfz14_2 := blk_frozen BK162.out 2))
   refine bodyPost_ret (results_ct rfl _ _ gb162 120 #[.string (⟨#[]⟩ : ByteArray), .int .i64 0, .bool false] (0, 0) _ rfl zz23 Try.underlying120 rfl zz4) rfl ?_
   exact ⟨zz3, zz44⟩
 ·
  rw [if_neg c3] at H
  have c3b0 : (a0 == 23) = false := beq_eq_false_iff_ne.mpr c3
  have c3b1 : (a0 != 23) = true := bne_iff_ne.mpr c3
  by_cases c15 : a0 = 24
  ·
   rw [if_pos c15] at H
   have c15b0 : (a0 == 24) = true := beq_iff_eq.mpr c15
   have c15b1 : (a0 != 24) = false := bne_eq_false_iff_eq.mpr c15
   clear c15
   by_cases c16 : a1 = 15
   ·
    rw [if_pos c16] at H
    have c16b0 : (a1 == 15) = true := beq_iff_eq.mpr c16
    have c16b1 : (a1 != 15) = false := bne_eq_false_iff_eq.mpr c16
    clear c16
    simp only [Option.some.injEq, Prod.mk.injEq] at H
    obtain ⟨rfl, rfl, rfl, rfl⟩ := H
    go_enter Try.func85, Try.ntmps85
    go_wp2_with (first | ((with_reducible refine gate_dst (N := 4) rfl ?_); refine zzbx (N := 4) (cs := #[.string (⟨#[]⟩ : ByteArray), .int .i64 0, .bool false]) (t := 120) ?_; intro gb162 hg w17 hbox hb; have n0_ := Aside0.mk (below_step zz1 hb); have n1_ := Aside0.mk (hbox); have n2_ := Aside0.mk ((zz15 : w.heap.size ≤ gb162)); have n3_ := Aside0.mk ((zz15 : w.heap.size ≤ gb162)); clear HB; have HB := n0_; have BK162 := n1_; have GW162 := n2_; have GE162 := n3_; clear n0_ n1_ n2_ n3_; clear hb hbox hg; have hcz18_0 : w17.cell? ⟨gb162, 0, none⟩ = some (.string (⟨#[]⟩ : ByteArray)) := (blk_cell BK162.out 0).trans rfl; have hcz18_1 : w17.cell? ⟨gb162, 1, none⟩ = some (.int .i64 0) := (blk_cell BK162.out 1).trans rfl; have hcz18_2 : w17.cell? ⟨gb162, 2, none⟩ = some (.bool false) := (blk_cell BK162.out 2).trans rfl; have hfz18_0 := blk_frozen BK162.out 0; have hfz18_1 := blk_frozen BK162.out 1; have hfz18_2 := blk_frozen BK162.out 2))
    refine bodyPost_ret (results_ct rfl _ _ gb162 120 #[.string (⟨#[]⟩ : ByteArray), .int .i64 a1, .bool false] (0, 0) _ rfl zz36 Try.underlying120 rfl zz4) rfl ?_
    exact ⟨zz3, zz44⟩
   ·
    rw [if_neg c16] at H
    have c16b0 : (a1 == 15) = false := beq_eq_false_iff_ne.mpr c16
    have c16b1 : (a1 != 15) = true := bne_iff_ne.mpr c16
    simp only [Option.some.injEq, Prod.mk.injEq] at H
    obtain ⟨rfl, rfl, rfl, rfl⟩ := H
    go_enter Try.func85, Try.ntmps85
    go_wp2_with (first | ((with_reducible refine gate_dst (N := 4) rfl ?_); refine zzbx (N := 4) (cs := #[.string (⟨#[]⟩ : ByteArray), .int .i64 0, .bool false]) (t := 120) ?_; intro gb162 hg w19 hbox hb; have n0_ := Aside0.mk (below_step zz1 hb); have n1_ := Aside0.mk (hbox); have n2_ := Aside0.mk ((zz15 : w.heap.size ≤ gb162)); have n3_ := Aside0.mk ((zz15 : w.heap.size ≤ gb162)); clear HB; have HB := n0_; have BK162 := n1_; have GW162 := n2_; have GE162 := n3_; clear n0_ n1_ n2_ n3_; clear hb hbox hg; have hcz20_0 : w19.cell? ⟨gb162, 0, none⟩ = some (.string (⟨#[]⟩ : ByteArray)) := (blk_cell BK162.out 0).trans rfl; have hcz20_1 : w19.cell? ⟨gb162, 1, none⟩ = some (.int .i64 0) := (blk_cell BK162.out 1).trans rfl; have hcz20_2 : w19.cell? ⟨gb162, 2, none⟩ = some (.bool false) := (blk_cell BK162.out 2).trans rfl; have hfz20_0 := blk_frozen BK162.out 0; have hfz20_1 := blk_frozen BK162.out 1; have hfz20_2 := blk_frozen BK162.out 2))
    refine bodyPost_ret (results_ct rfl _ _ gb162 120 #[.string (⟨#[]⟩ : ByteArray), .int .i64 0, .bool false] (0, 0) _ rfl zz23 Try.underlying120 rfl zz4) rfl ?_
    exact ⟨zz3, zz44⟩
  ·
   rw [if_neg c15] at H
   have c15b0 : (a0 == 24) = false := beq_eq_false_iff_ne.mpr c15
   have c15b1 : (a0 != 24) = true := bne_iff_ne.mpr c15
   simp only [Option.some.injEq, Prod.mk.injEq] at H
   obtain ⟨rfl, rfl, rfl, rfl⟩ := H
   go_enter Try.func85, Try.ntmps85
   go_wp2_with (first | ((with_reducible refine gate_dst (N := 4) rfl ?_); refine zzbx (N := 4) (cs := #[.string (⟨#[]⟩ : ByteArray), .int .i64 0, .bool false]) (t := 120) ?_; intro gb162 hg w21 hbox hb; have n0_ := Aside0.mk (below_step zz1 hb); have n1_ := Aside0.mk (hbox); have n2_ := Aside0.mk ((zz15 : w.heap.size ≤ gb162)); have n3_ := Aside0.mk ((zz15 : w.heap.size ≤ gb162)); clear HB; have HB := n0_; have BK162 := n1_; have GW162 := n2_; have GE162 := n3_; clear n0_ n1_ n2_ n3_; clear hb hbox hg; have hcz22_0 : w21.cell? ⟨gb162, 0, none⟩ = some (.string (⟨#[]⟩ : ByteArray)) := (blk_cell BK162.out 0).trans rfl; have hcz22_1 : w21.cell? ⟨gb162, 1, none⟩ = some (.int .i64 0) := (blk_cell BK162.out 1).trans rfl; have hcz22_2 : w21.cell? ⟨gb162, 2, none⟩ = some (.bool false) := (blk_cell BK162.out 2).trans rfl; have hfz22_0 := blk_frozen BK162.out 0; have hfz22_1 := blk_frozen BK162.out 1; have hfz22_2 := blk_frozen BK162.out 2))
   refine bodyPost_ret (results_ct rfl _ _ gb162 120 #[.string (⟨#[]⟩ : ByteArray), .int .i64 0, .bool false] (0, 0) _ rfl zz23 Try.underlying120 rfl zz4) rfl ?_
   exact ⟨zz3, zz44⟩
end Go.Proofs.Ytgddaddoabjgiaa.PB
namespace Go.Proofs.Ytgddaddoabjgiaa.PB
open RowKit YtgddaddoabjgiaaW.PrintWords YtgddaddoabjgiaaW.PrintLast YtgddaddoabjgiaaW.PrintMore
attribute [local go_sem] max2_int min2_int max_two min_two max_three min_three max_four min_four
set_option linter.unusedVariables false
set_option linter.unusedSimpArgs false
def when_number.l0 : Nat → ByteArray → Int → Int → Int → Option (Int)
 | 0, _, _, _, _ => none
 | k + 1, x0, x3, x6, x7 => if x7 < x6 then (if 0 ≤ x7 then (if x7 < (x0.size : Int) then (when_number.l0 k x0 (wrap64 ((wrap64 (10 * x3)) + (((bt x0 x7) - 48) % 256))) x6 (wrap64 (x7 + 1))) else (none)) else (none)) else (some x3)
def when_number.f (k : Nat) (a0 : ByteArray) : Option (Int) := when_number.l0 k a0 0 (a0.size : Int) 0
set_option maxHeartbeats 8000000 in
set_option maxRecDepth 100000 in
theorem when_number.calls (k : Nat) (a0 : ByteArray) (r : Int) (w : World) (h : when_number.f k a0 = some r) :
 Calls Try.prog 101 #[.string a0] w fun e w' => e = .returned (.int .i64 r) ∧ Drawn0 w w' := by
 have H : (when_number.l0 k a0 0 (a0.size : Int) 0) = some r := h
 clear h
 have H' := Aside0.mk H
 clear H
 go_enter Try.func101, Try.ntmps101
 go_wp2
 go_loopg [3, 7] k (fun kq v3 v7 w' => ∃ (x3_1 : Int) (x7_1 : Int), v3 = .int .i64 x3_1 ∧ v7 = .int .i64 x7_1 ∧ Aside0 (when_number.l0 kq a0 x3_1 (a0.size : Int) x7_1 = some r) ∧ Aside0 (kq ≤ k) ∧ Drawn0 w w')
 case atStart => exact ⟨(0), (0), zz0, zz0, H', ⟨Nat.le_refl _⟩, zz2⟩
 case round =>
  clear H'
  try clear c1
  obtain ⟨x3_1, x7_1, rfl, rfl, HA, HK1, ⟨m1, rfl⟩⟩ := hrel
  cases gk with
  | zero => exact absurd HA.out (by simp [when_number.l0])
  | succ k1 =>
    have H := HA.out
    clear HA
    simp only [when_number.l0] at H
    by_cases c2 : x7_1 < (a0.size : Int)
    ·
     rw [if_pos c2] at H
     have c2b0 : decide (x7_1 < (a0.size : Int)) = true := decide_eq_true c2
     clear c2
     by_cases c3 : 0 ≤ x7_1
     ·
      rw [if_pos c3] at H
      have c3b0 : decide (0 ≤ x7_1) = true := decide_eq_true c3
      clear c3
      by_cases c4 : x7_1 < (a0.size : Int)
      ·
       rw [if_pos c4] at H
       have c4b0 : decide (x7_1 < (a0.size : Int)) = true := decide_eq_true c4
       clear c4
       have H' := Aside0.mk H
       clear H
       have p5 : 0 ≤ (x7_1 : Int) := of_decide_eq_true zz6
       have q5 : x7_1 < (a0.size : Int) := of_decide_eq_true zz6
       have hx5 := bt_at a0 x7_1
       replace p5 := eq_true p5
       replace q5 := eq_true q5
       go_wp2
       go_roundg k1
       case measure => have := HK1.out; omega
       case rel => exact ⟨(wrap64 ((wrap64 (10 * x3_1)) + (((bt a0 x7_1) - 48) % 256))), (wrap64 (x7_1 + 1)), zz0, zz0, H', ⟨zz68⟩, zz2⟩
      ·
       rw [if_neg c4] at H
       exact absurd H zz43
     ·
      rw [if_neg c3] at H
      exact absurd H zz43
    ·
     rw [if_neg c2] at H
     have c2b0 : decide (x7_1 < (a0.size : Int)) = false := decide_eq_false c2
     clear c2
     obtain rfl := Option.some.inj H
     go_wp2
     go_ret
     exact ⟨zz0, zz2⟩
def when_Days.f (a0 : Int) (a1 : Int) : Option (Int) := some (Days.days a0 a1)
theorem when_Days.calls (a0 : Int) (a1 : Int) (r : Int) (w : World) (h : when_Days.f a0 a1 = some r) :
 Calls Try.prog 104 #[.int .i64 a0, .int .i64 a1] w fun e w' => e = .returned (.int .i64 r) ∧ Drawn0 w w' := by
 unfold when_Days.f at h
 obtain rfl := Option.some.inj h
 exact (Days.days_any a0 a1 w).mono fun e w' ⟨he, hw⟩ => ⟨he, hw ▸ Drawn0.refl w⟩
def when_span.f (k : Nat) (a0 : ByteArray) (a1 : Int) : Option (Int × Int) := if a1 = 4 then (some (1, 12)) else (if a1 = 6 then (if 0 ≤ 4 then (if 4 ≤ (a0.size : Int) then ((when_number.f k (a0.extract 0 4)).bind fun t163 => (if 4 ≤ 6 then (if 6 ≤ (a0.size : Int) then ((when_number.f k (a0.extract 4 6)).bind fun t164 => ((when_Days.f t163 t164).bind fun t165 => (some (1, t165)))) else (none)) else (none))) else (none)) else (none)) else (if a1 = 8 then (some (0, 23)) else (some (0, 59))))
set_option maxHeartbeats 8000000 in
set_option maxRecDepth 100000 in
theorem when_span.calls (k : Nat) (a0 : ByteArray) (a1 : Int) (r1 : Int) (r2 : Int) (w : World) (h : when_span.f k a0 a1 = some (r1, r2)) :
 Calls Try.prog 100 #[.string a0, .int .i64 a1] w fun e w' => e = .returned (.tuple #[.int .i64 r1, .int .i64 r2]) ∧ Drawn0 w w' := by
 have H : (if a1 = 4 then (some (1, 12)) else (if a1 = 6 then (if 0 ≤ 4 then (if 4 ≤ (a0.size : Int) then ((when_number.f k (a0.extract 0 4)).bind fun t163 => (if 4 ≤ 6 then (if 6 ≤ (a0.size : Int) then ((when_number.f k (a0.extract 4 6)).bind fun t164 => ((when_Days.f t163 t164).bind fun t165 => (some (1, t165)))) else (none)) else (none))) else (none)) else (none)) else (if a1 = 8 then (some (0, 23)) else (some (0, 59))))) = some (r1, r2) := h
 clear h
 by_cases c3 : a1 = 4
 ·
  rw [if_pos c3] at H
  have c3b0 : (a1 == 4) = true := beq_iff_eq.mpr c3
  have c3b1 : (a1 != 4) = false := bne_eq_false_iff_eq.mpr c3
  clear c3
  simp only [Option.some.injEq, Prod.mk.injEq] at H
  obtain ⟨rfl, rfl⟩ := H
  go_enter Try.func100, Try.ntmps100
  go_wp2
  repeat (go_quiet (fail); try go_wp2)
  go_ret2
  exact ⟨zz0, zz2⟩
 ·
  rw [if_neg c3] at H
  have c3b0 : (a1 == 4) = false := beq_eq_false_iff_ne.mpr c3
  have c3b1 : (a1 != 4) = true := bne_iff_ne.mpr c3
  by_cases c4 : a1 = 6
  ·
   rw [if_pos c4] at H
   have c4b0 : (a1 == 6) = true := beq_iff_eq.mpr c4
   have c4b1 : (a1 != 6) = false := bne_eq_false_iff_eq.mpr c4
   clear c4
   by_cases c5 : 0 ≤ 4
   ·
    rw [if_pos c5] at H
    have c5b0 := eq_true c5
    have c5b1 : decide (0 ≤ 4) = true := decide_eq_true c5
    clear c5
    by_cases c6 : 4 ≤ (a0.size : Int)
    ·
     rw [if_pos c6] at H
     have c6b0 := eq_true c6
     have c6b1 : decide (4 ≤ (a0.size : Int)) = true := decide_eq_true c6
     clear c6
     replace H := Option.bind_eq_some_iff.mp H
     obtain ⟨t163, A70, H⟩ := H
     replace H : (if 4 ≤ 6 then (if 6 ≤ (a0.size : Int) then ((when_number.f k (a0.extract 4 6)).bind fun t164 => ((when_Days.f t163 t164).bind fun t165 => (some (1, t165)))) else (none)) else (none)) = some (r1, r2) := H
     have A7 := Aside0.mk A70
     clear A70
     by_cases c8 : 4 ≤ 6
     ·
      rw [if_pos c8] at H
      have c8b0 := eq_true c8
      have c8b1 : decide (4 ≤ 6) = true := decide_eq_true c8
      clear c8
      by_cases c9 : 6 ≤ (a0.size : Int)
      ·
       rw [if_pos c9] at H
       have c9b0 := eq_true c9
       have c9b1 : decide (6 ≤ (a0.size : Int)) = true := decide_eq_true c9
       clear c9
       replace H := Option.bind_eq_some_iff.mp H
       obtain ⟨t164, A100, H⟩ := H
       replace H : ((when_Days.f t163 t164).bind fun t165 => (some (1, t165))) = some (r1, r2) := H
       have A10 := Aside0.mk A100
       clear A100
       replace H := Option.bind_eq_some_iff.mp H
       obtain ⟨t165, A110, H⟩ := H
       replace H : (some (1, t165)) = some (r1, r2) := H
       have A11 := Aside0.mk A110
       clear A110
       simp only [Option.some.injEq, Prod.mk.injEq] at H
       obtain ⟨rfl, rfl⟩ := H
       go_enter Try.func100, Try.ntmps100
       go_wp2_with (first | (go_at_call 101; (with_reducible refine (when_number.calls k (a0.extract 0 4) t163 _ A7.out).mono ?_); rintro e w' ⟨rfl, ⟨nd, rfl⟩⟩; (try first | exact ⟨rfl, _, World.drewN_drewN _ _ _⟩ | exact ⟨rfl, _, Eq.trans (World.drewN_drewN _ _ _) (congrArg (World.drewN _) (Nat.add_assoc _ _ _))⟩)) | (go_at_call 101; (with_reducible refine (when_number.calls k (a0.extract 4 6) t164 _ A10.out).mono ?_); rintro e w' ⟨rfl, ⟨nd, rfl⟩⟩; (try first | exact ⟨rfl, _, World.drewN_drewN _ _ _⟩ | exact ⟨rfl, _, Eq.trans (World.drewN_drewN _ _ _) (congrArg (World.drewN _) (Nat.add_assoc _ _ _))⟩)) | (go_at_call 104; (with_reducible refine (when_Days.calls t163 t164 t165 _ A11.out).mono ?_); rintro e w' ⟨rfl, ⟨nd, rfl⟩⟩; (try first | exact ⟨rfl, _, World.drewN_drewN _ _ _⟩ | exact ⟨rfl, _, Eq.trans (World.drewN_drewN _ _ _) (congrArg (World.drewN _) (Nat.add_assoc _ _ _))⟩)))
       repeat (go_quiet (first | (go_at_call 101; (with_reducible refine (when_number.calls k (a0.extract 0 4) t163 _ A7.out).mono ?_); rintro e w' ⟨rfl, ⟨nd, rfl⟩⟩; (try first | exact ⟨rfl, _, World.drewN_drewN _ _ _⟩ | exact ⟨rfl, _, Eq.trans (World.drewN_drewN _ _ _) (congrArg (World.drewN _) (Nat.add_assoc _ _ _))⟩)) | (go_at_call 101; (with_reducible refine (when_number.calls k (a0.extract 4 6) t164 _ A10.out).mono ?_); rintro e w' ⟨rfl, ⟨nd, rfl⟩⟩; (try first | exact ⟨rfl, _, World.drewN_drewN _ _ _⟩ | exact ⟨rfl, _, Eq.trans (World.drewN_drewN _ _ _) (congrArg (World.drewN _) (Nat.add_assoc _ _ _))⟩)) | (go_at_call 104; (with_reducible refine (when_Days.calls t163 t164 t165 _ A11.out).mono ?_); rintro e w' ⟨rfl, ⟨nd, rfl⟩⟩; (try first | exact ⟨rfl, _, World.drewN_drewN _ _ _⟩ | exact ⟨rfl, _, Eq.trans (World.drewN_drewN _ _ _) (congrArg (World.drewN _) (Nat.add_assoc _ _ _))⟩))); try go_wp2_with (first | (go_at_call 101; (with_reducible refine (when_number.calls k (a0.extract 0 4) t163 _ A7.out).mono ?_); rintro e w' ⟨rfl, ⟨nd, rfl⟩⟩; (try first | exact ⟨rfl, _, World.drewN_drewN _ _ _⟩ | exact ⟨rfl, _, Eq.trans (World.drewN_drewN _ _ _) (congrArg (World.drewN _) (Nat.add_assoc _ _ _))⟩)) | (go_at_call 101; (with_reducible refine (when_number.calls k (a0.extract 4 6) t164 _ A10.out).mono ?_); rintro e w' ⟨rfl, ⟨nd, rfl⟩⟩; (try first | exact ⟨rfl, _, World.drewN_drewN _ _ _⟩ | exact ⟨rfl, _, Eq.trans (World.drewN_drewN _ _ _) (congrArg (World.drewN _) (Nat.add_assoc _ _ _))⟩)) | (go_at_call 104; (with_reducible refine (when_Days.calls t163 t164 t165 _ A11.out).mono ?_); rintro e w' ⟨rfl, ⟨nd, rfl⟩⟩; (try first | exact ⟨rfl, _, World.drewN_drewN _ _ _⟩ | exact ⟨rfl, _, Eq.trans (World.drewN_drewN _ _ _) (congrArg (World.drewN _) (Nat.add_assoc _ _ _))⟩))))
       go_ret2
       exact ⟨zz0, zz2⟩
      ·
       rw [if_neg c9] at H
       exact absurd H zz43
     ·
      rw [if_neg c8] at H
      exact absurd H zz43
    ·
     rw [if_neg c6] at H
     exact absurd H zz43
   ·
    rw [if_neg c5] at H
    exact absurd H zz43
  ·
   rw [if_neg c4] at H
   have c4b0 : (a1 == 6) = false := beq_eq_false_iff_ne.mpr c4
   have c4b1 : (a1 != 6) = true := bne_iff_ne.mpr c4
   by_cases c12 : a1 = 8
   ·
    rw [if_pos c12] at H
    have c12b0 : (a1 == 8) = true := beq_iff_eq.mpr c12
    have c12b1 : (a1 != 8) = false := bne_eq_false_iff_eq.mpr c12
    clear c12
    simp only [Option.some.injEq, Prod.mk.injEq] at H
    obtain ⟨rfl, rfl⟩ := H
    go_enter Try.func100, Try.ntmps100
    go_wp2
    repeat (go_quiet (fail); try go_wp2)
    go_ret2
    exact ⟨zz0, zz2⟩
   ·
    rw [if_neg c12] at H
    have c12b0 : (a1 == 8) = false := beq_eq_false_iff_ne.mpr c12
    have c12b1 : (a1 != 8) = true := bne_iff_ne.mpr c12
    simp only [Option.some.injEq, Prod.mk.injEq] at H
    obtain ⟨rfl, rfl⟩ := H
    go_enter Try.func100, Try.ntmps100
    go_wp2
    repeat (go_quiet (fail); try go_wp2)
    go_ret2
    exact ⟨zz0, zz2⟩
def when_may.f (k : Nat) (a0 : ByteArray) : Option (Bool) := if (a0.size : Int) ≤ 4 then (some true) else ((when_span.f k a0 (Go.bits .andNot .i64 (wrap64 ((a0.size : Int) - 1)) 1)).bind fun bt166 => (if ((a0.size : Int) % 2) = 1 then (if 0 ≤ (Go.bits .andNot .i64 (wrap64 ((a0.size : Int) - 1)) 1) then (if (Go.bits .andNot .i64 (wrap64 ((a0.size : Int) - 1)) 1) ≤ (a0.size : Int) then ((when_number.f k (a0.extract ((Go.bits .andNot .i64 (wrap64 ((a0.size : Int) - 1)) 1) : Int).toNat a0.size)).bind fun t168 => (if t168 ≥ (wrap64 (Int.tdiv bt166.1 10)) then ((when_number.f k (a0.extract ((Go.bits .andNot .i64 (wrap64 ((a0.size : Int) - 1)) 1) : Int).toNat a0.size)).bind fun t169 => (some (decide (t169 ≤ (wrap64 (Int.tdiv bt166.2 10)))))) else (some false))) else (none)) else (none)) else (if 0 ≤ (Go.bits .andNot .i64 (wrap64 ((a0.size : Int) - 1)) 1) then (if (Go.bits .andNot .i64 (wrap64 ((a0.size : Int) - 1)) 1) ≤ (a0.size : Int) then ((when_number.f k (a0.extract ((Go.bits .andNot .i64 (wrap64 ((a0.size : Int) - 1)) 1) : Int).toNat a0.size)).bind fun t170 => (if t170 ≥ bt166.1 then ((when_number.f k (a0.extract ((Go.bits .andNot .i64 (wrap64 ((a0.size : Int) - 1)) 1) : Int).toNat a0.size)).bind fun t171 => (some (decide (t171 ≤ bt166.2)))) else (some false))) else (none)) else (none))))
set_option maxHeartbeats 8000000 in
set_option maxRecDepth 100000 in
theorem when_may.calls (k : Nat) (a0 : ByteArray) (r : Bool) (w : World) (h : when_may.f k a0 = some r) :
 Calls Try.prog 95 #[.string a0] w fun e w' => e = .returned (.bool r) ∧ Drawn0 w w' := by
 have H : (if (a0.size : Int) ≤ 4 then (some true) else ((when_span.f k a0 (Go.bits .andNot .i64 (wrap64 ((a0.size : Int) - 1)) 1)).bind fun bt166 => (if ((a0.size : Int) % 2) = 1 then (if 0 ≤ (Go.bits .andNot .i64 (wrap64 ((a0.size : Int) - 1)) 1) then (if (Go.bits .andNot .i64 (wrap64 ((a0.size : Int) - 1)) 1) ≤ (a0.size : Int) then ((when_number.f k (a0.extract ((Go.bits .andNot .i64 (wrap64 ((a0.size : Int) - 1)) 1) : Int).toNat a0.size)).bind fun t168 => (if t168 ≥ (wrap64 (Int.tdiv bt166.1 10)) then ((when_number.f k (a0.extract ((Go.bits .andNot .i64 (wrap64 ((a0.size : Int) - 1)) 1) : Int).toNat a0.size)).bind fun t169 => (some (decide (t169 ≤ (wrap64 (Int.tdiv bt166.2 10)))))) else (some false))) else (none)) else (none)) else (if 0 ≤ (Go.bits .andNot .i64 (wrap64 ((a0.size : Int) - 1)) 1) then (if (Go.bits .andNot .i64 (wrap64 ((a0.size : Int) - 1)) 1) ≤ (a0.size : Int) then ((when_number.f k (a0.extract ((Go.bits .andNot .i64 (wrap64 ((a0.size : Int) - 1)) 1) : Int).toNat a0.size)).bind fun t170 => (if t170 ≥ bt166.1 then ((when_number.f k (a0.extract ((Go.bits .andNot .i64 (wrap64 ((a0.size : Int) - 1)) 1) : Int).toNat a0.size)).bind fun t171 => (some (decide (t171 ≤ bt166.2)))) else (some false))) else (none)) else (none))))) = some r := h
 clear h
 by_cases c2 : (a0.size : Int) ≤ 4
 ·
  rw [if_pos c2] at H
  have c2b0 : decide ((a0.size : Int) ≤ 4) = true := decide_eq_true c2
  have c2b1 : decide (a0.size ≤ 4) = true := decide_eq_true zz7
  clear c2
  obtain rfl := Option.some.inj H
  go_enter Try.func95, Try.ntmps95
  go_wp2
  go_ret
  exact ⟨zz0, zz2⟩
 ·
  rw [if_neg c2] at H
  have c2b0 : decide ((a0.size : Int) ≤ 4) = false := decide_eq_false c2
  have c2b1 : decide (a0.size ≤ 4) = false := decide_eq_false zz7
  clear c2
  replace H := Option.bind_eq_some_iff.mp H
  obtain ⟨⟨t166, t167⟩, A30, H⟩ := H
  replace H : (if ((a0.size : Int) % 2) = 1 then (if 0 ≤ (Go.bits .andNot .i64 (wrap64 ((a0.size : Int) - 1)) 1) then (if (Go.bits .andNot .i64 (wrap64 ((a0.size : Int) - 1)) 1) ≤ (a0.size : Int) then ((when_number.f k (a0.extract ((Go.bits .andNot .i64 (wrap64 ((a0.size : Int) - 1)) 1) : Int).toNat a0.size)).bind fun t168 => (if t168 ≥ (wrap64 (Int.tdiv t166 10)) then ((when_number.f k (a0.extract ((Go.bits .andNot .i64 (wrap64 ((a0.size : Int) - 1)) 1) : Int).toNat a0.size)).bind fun t169 => (some (decide (t169 ≤ (wrap64 (Int.tdiv t167 10)))))) else (some false))) else (none)) else (none)) else (if 0 ≤ (Go.bits .andNot .i64 (wrap64 ((a0.size : Int) - 1)) 1) then (if (Go.bits .andNot .i64 (wrap64 ((a0.size : Int) - 1)) 1) ≤ (a0.size : Int) then ((when_number.f k (a0.extract ((Go.bits .andNot .i64 (wrap64 ((a0.size : Int) - 1)) 1) : Int).toNat a0.size)).bind fun t170 => (if t170 ≥ t166 then ((when_number.f k (a0.extract ((Go.bits .andNot .i64 (wrap64 ((a0.size : Int) - 1)) 1) : Int).toNat a0.size)).bind fun t171 => (some (decide (t171 ≤ t167)))) else (some false))) else (none)) else (none))) = some r := H
  have A3 := Aside0.mk A30
  clear A30
  by_cases c4 : ((a0.size : Int) % 2) = 1
  ·
   rw [if_pos c4] at H
   have c4b0 : (((a0.size : Int) % 2) == 1) = true := beq_iff_eq.mpr c4
   have c4b1 : (((a0.size : Int) % 2) != 1) = false := bne_eq_false_iff_eq.mpr c4
   clear c4
   obtain ⟨ji5, hji5⟩ : ∃ j_ : Int, (Go.bits .andNot .i64 (wrap64 ((a0.size : Int) - 1)) 1) = j_ := ⟨_, rfl⟩
   replace H : (if 0 ≤ (ji5) then (if (ji5) ≤ (a0.size : Int) then ((when_number.f k (a0.extract ((ji5) : Int).toNat a0.size)).bind fun t168 => (if t168 ≥ (wrap64 (Int.tdiv t166 10)) then ((when_number.f k (a0.extract ((ji5) : Int).toNat a0.size)).bind fun t169 => (some (decide (t169 ≤ (wrap64 (Int.tdiv t167 10)))))) else (some false))) else (none)) else (none)) = some r := by first | (rw [hji5] at H; exact H) | (simp only [hji5] at H ⊢; exact H)
   (try rw [hji5] at A3)
   by_cases c6 : 0 ≤ (ji5)
   ·
    rw [if_pos c6] at H
    have c6b0 := eq_true c6
    have c6b1 : decide (0 ≤ (ji5)) = true := decide_eq_true c6
    clear c6
    by_cases c7 : (ji5) ≤ (a0.size : Int)
    ·
     rw [if_pos c7] at H
     have c7b0 := eq_true c7
     have c7b1 : decide ((ji5) ≤ (a0.size : Int)) = true := decide_eq_true c7
     clear c7
     obtain ⟨xt5, hxt5⟩ : ∃ x_ : ByteArray, (a0.extract ((ji5) : Int).toNat a0.size) = x_ := ⟨_, rfl⟩
     rw [hxt5] at H
     replace H := Option.bind_eq_some_iff.mp H
     obtain ⟨t168, A80, H⟩ := H
     replace H : (if t168 ≥ (wrap64 (Int.tdiv t166 10)) then ((when_number.f k xt5).bind fun t169 => (some (decide (t169 ≤ (wrap64 (Int.tdiv t167 10)))))) else (some false)) = some r := H
     have A8 := Aside0.mk A80
     clear A80
     by_cases c9 : t168 ≥ (wrap64 (Int.tdiv t166 10))
     ·
      rw [if_pos c9] at H
      have c9b0 : decide ((wrap64 (Int.tdiv t166 10)) ≤ t168) = true := decide_eq_true c9
      clear c9
      have c10b0 := eq_true (of_decide_eq_true zz6 : 0 ≤ (ji5))
      have c11b0 := eq_true (of_decide_eq_true zz6 : (ji5) ≤ (a0.size : Int))
      replace H := Option.bind_eq_some_iff.mp H
      obtain ⟨t169, A120, H⟩ := H
      replace H : (some (decide (t169 ≤ (wrap64 (Int.tdiv t167 10))))) = some r := H
      have A12 := Aside0.mk A120
      clear A120
      have hsm_ := A8.out.symm.trans A12.out
      simp only [Option.some.injEq, Prod.mk.injEq] at hsm_
      obtain rfl := hsm_
      obtain rfl := Option.some.inj H
      go_enter Try.func95, Try.ntmps95
      go_wp2_with (first | ((with_reducible refine gate_callee (f := 100) rfl ?_); refine goesL_ (some 17) rfl rfl Try.func100 zz4 rfl #[.string a0, .int .i64 ji5] rfl zz58 ?_; (with_reducible refine (when_span.calls k a0 ji5 t166 t167 _ A3.out).mono ?_); rintro e w' ⟨rfl, ⟨nd, rfl⟩⟩; refine ⟨_, rfl, ?_⟩) | ((with_reducible refine gate_callee (f := 101) rfl ?_); refine goesL_ (some 26) rfl rfl Try.func101 zz4 rfl #[.string xt5] rfl zz58 ?_; (with_reducible refine (when_number.calls k xt5 t168 _ A8.out).mono ?_); rintro e w' ⟨rfl, ⟨nd, rfl⟩⟩; refine ⟨_, rfl, ?_⟩) | (go_at_call 101; (with_reducible refine (when_number.calls k xt5 t168 _ A12.out).mono ?_); rintro e w' ⟨rfl, ⟨nd, rfl⟩⟩))
      go_ret
      exact ⟨by first | rfl | (simp; done) | (simp only [← hji5] <;> (first | rfl | simp)) | (simp [*]; done), zz2⟩
     ·
      rw [if_neg c9] at H
      have c9b0 : decide ((wrap64 (Int.tdiv t166 10)) ≤ t168) = false := decide_eq_false c9
      clear c9
      obtain rfl := Option.some.inj H
      go_enter Try.func95, Try.ntmps95
      go_wp2_with (first | ((with_reducible refine gate_callee (f := 100) rfl ?_); refine goesL_ (some 17) rfl rfl Try.func100 zz4 rfl #[.string a0, .int .i64 ji5] rfl zz58 ?_; (with_reducible refine (when_span.calls k a0 ji5 t166 t167 _ A3.out).mono ?_); rintro e w' ⟨rfl, ⟨nd, rfl⟩⟩; refine ⟨_, rfl, ?_⟩) | ((with_reducible refine gate_callee (f := 101) rfl ?_); refine goesL_ (some 26) rfl rfl Try.func101 zz4 rfl #[.string xt5] rfl zz58 ?_; (with_reducible refine (when_number.calls k xt5 t168 _ A8.out).mono ?_); rintro e w' ⟨rfl, ⟨nd, rfl⟩⟩; refine ⟨_, rfl, ?_⟩))
      go_ret
      exact ⟨by first | rfl | (simp; done) | (simp only [← hji5] <;> (first | rfl | simp)) | (simp [*]; done), zz2⟩
    ·
     rw [if_neg c7] at H
     exact absurd H zz43
   ·
    rw [if_neg c6] at H
    exact absurd H zz43
  ·
   rw [if_neg c4] at H
   have c4b0 : (((a0.size : Int) % 2) == 1) = false := beq_eq_false_iff_ne.mpr c4
   have c4b1 : (((a0.size : Int) % 2) != 1) = true := bne_iff_ne.mpr c4
   obtain ⟨ji13, hji13⟩ : ∃ j_ : Int, (Go.bits .andNot .i64 (wrap64 ((a0.size : Int) - 1)) 1) = j_ := ⟨_, rfl⟩
   replace H : (if 0 ≤ (ji13) then (if (ji13) ≤ (a0.size : Int) then ((when_number.f k (a0.extract ((ji13) : Int).toNat a0.size)).bind fun t170 => (if t170 ≥ t166 then ((when_number.f k (a0.extract ((ji13) : Int).toNat a0.size)).bind fun t171 => (some (decide (t171 ≤ t167)))) else (some false))) else (none)) else (none)) = some r := by first | (rw [hji13] at H; exact H) | (simp only [hji13] at H ⊢; exact H)
   (try rw [hji13] at A3)
   by_cases c14 : 0 ≤ (ji13)
   ·
    rw [if_pos c14] at H
    have c14b0 := eq_true c14
    have c14b1 : decide (0 ≤ (ji13)) = true := decide_eq_true c14
    clear c14
    by_cases c15 : (ji13) ≤ (a0.size : Int)
    ·
     rw [if_pos c15] at H
     have c15b0 := eq_true c15
     have c15b1 : decide ((ji13) ≤ (a0.size : Int)) = true := decide_eq_true c15
     clear c15
     obtain ⟨xt13, hxt13⟩ : ∃ x_ : ByteArray, (a0.extract ((ji13) : Int).toNat a0.size) = x_ := ⟨_, rfl⟩
     rw [hxt13] at H
     replace H := Option.bind_eq_some_iff.mp H
     obtain ⟨t170, A160, H⟩ := H
     replace H : (if t170 ≥ t166 then ((when_number.f k xt13).bind fun t171 => (some (decide (t171 ≤ t167)))) else (some false)) = some r := H
     have A16 := Aside0.mk A160
     clear A160
     by_cases c17 : t170 ≥ t166
     ·
      rw [if_pos c17] at H
      have c17b0 : decide (t166 ≤ t170) = true := decide_eq_true c17
      clear c17
      have c18b0 := eq_true (of_decide_eq_true zz6 : 0 ≤ (ji13))
      have c19b0 := eq_true (of_decide_eq_true zz6 : (ji13) ≤ (a0.size : Int))
      replace H := Option.bind_eq_some_iff.mp H
      obtain ⟨t171, A200, H⟩ := H
      replace H : (some (decide (t171 ≤ t167))) = some r := H
      have A20 := Aside0.mk A200
      clear A200
      have hsm_ := A16.out.symm.trans A20.out
      simp only [Option.some.injEq, Prod.mk.injEq] at hsm_
      obtain rfl := hsm_
      obtain rfl := Option.some.inj H
      go_enter Try.func95, Try.ntmps95
      go_wp2_with (first | ((with_reducible refine gate_callee (f := 100) rfl ?_); refine goesL_ (some 17) rfl rfl Try.func100 zz4 rfl #[.string a0, .int .i64 ji13] rfl zz57 ?_; (with_reducible refine (when_span.calls k a0 ji13 t166 t167 _ A3.out).mono ?_); rintro e w' ⟨rfl, ⟨nd, rfl⟩⟩; refine ⟨_, rfl, ?_⟩) | ((with_reducible refine gate_callee (f := 101) rfl ?_); refine goesL_ (some 42) rfl rfl Try.func101 zz4 rfl #[.string xt13] rfl zz57 ?_; (with_reducible refine (when_number.calls k xt13 t170 _ A16.out).mono ?_); rintro e w' ⟨rfl, ⟨nd, rfl⟩⟩; refine ⟨_, rfl, ?_⟩) | (go_at_call 101; (with_reducible refine (when_number.calls k xt13 t170 _ A20.out).mono ?_); rintro e w' ⟨rfl, ⟨nd, rfl⟩⟩))
      go_ret
      exact ⟨by first | rfl | (simp; done) | (simp only [← hji13] <;> (first | rfl | simp)) | (simp [*]; done), zz2⟩
     ·
      rw [if_neg c17] at H
      have c17b0 : decide (t166 ≤ t170) = false := decide_eq_false c17
      clear c17
      obtain rfl := Option.some.inj H
      go_enter Try.func95, Try.ntmps95
      go_wp2_with (first | ((with_reducible refine gate_callee (f := 100) rfl ?_); refine goesL_ (some 17) rfl rfl Try.func100 zz4 rfl #[.string a0, .int .i64 ji13] rfl zz57 ?_; (with_reducible refine (when_span.calls k a0 ji13 t166 t167 _ A3.out).mono ?_); rintro e w' ⟨rfl, ⟨nd, rfl⟩⟩; refine ⟨_, rfl, ?_⟩) | ((with_reducible refine gate_callee (f := 101) rfl ?_); refine goesL_ (some 42) rfl rfl Try.func101 zz4 rfl #[.string xt13] rfl zz57 ?_; (with_reducible refine (when_number.calls k xt13 t170 _ A16.out).mono ?_); rintro e w' ⟨rfl, ⟨nd, rfl⟩⟩; refine ⟨_, rfl, ?_⟩))
      go_ret
      exact ⟨by first | rfl | (simp; done) | (simp only [← hji13] <;> (first | rfl | simp)) | (simp [*]; done), zz2⟩
    ·
     rw [if_neg c15] at H
     exact absurd H zz43
   ·
    rw [if_neg c14] at H
    exact absurd H zz43
end Go.Proofs.Ytgddaddoabjgiaa.PB
namespace Go.Proofs.Ytgddaddoabjgiaa.PB
open RowKit YtgddaddoabjgiaaW.PrintWords YtgddaddoabjgiaaW.PrintLast YtgddaddoabjgiaaW.PrintMore
attribute [local go_sem] max2_int min2_int max_two min_two max_three min_three max_four min_four
set_option linter.unusedVariables false
set_option linter.unusedSimpArgs false
def when_late.l0 : Nat → ByteArray → Option (Bool)
 | 0, _ => none
 | k + 1, x3 => if (x3.size : Int) < 4 then (if x3.size + 1 ≤ 9223372036854775807 then (when_late.l0 k (x3 ++ (⟨#[57]⟩ : ByteArray))) else (none)) else (if 0 ≤ 4 then (if 4 ≤ (x3.size : Int) then ((when_number.f k (x3.extract 0 4)).bind fun t172 => (some (decide (t172 ≥ 2050)))) else (none)) else (none))
def when_late.f (k : Nat) (a0 : ByteArray) : Option (Bool) := when_late.l0 k a0
set_option maxHeartbeats 8000000 in
set_option maxRecDepth 100000 in
theorem when_late.calls (k : Nat) (a0 : ByteArray) (r : Bool) (w : World) (h : when_late.f k a0 = some r) :
 Calls Try.prog 96 #[.string a0] w fun e w' => e = .returned (.bool r) ∧ Drawn0 w w' := by
 have H : (when_late.l0 k a0) = some r := h
 clear h
 have H' := Aside0.mk H
 clear H
 go_enter Try.func96, Try.ntmps96
 go_wp2
 go_loopg [3] k (fun kq v3 w' => ∃ (x3_1 : ByteArray), v3 = .string x3_1 ∧ Aside0 (when_late.l0 kq x3_1 = some r) ∧ Aside0 (kq ≤ k) ∧ Drawn0 w w')
 case atStart => exact ⟨(a0), zz0, H', ⟨Nat.le_refl _⟩, zz2⟩
 case round =>
  clear H'
  obtain ⟨x3_1, rfl, HA, HK1, ⟨m1, rfl⟩⟩ := hrel
  cases gk with
  | zero => exact absurd HA.out (by simp [when_late.l0])
  | succ k1 =>
    have H := HA.out
    clear HA
    simp only [when_late.l0] at H
    by_cases c2 : (x3_1.size : Int) < 4
    ·
     rw [if_pos c2] at H
     have c2b0 : decide ((x3_1.size : Int) < 4) = true := decide_eq_true c2
     have c2b1 : decide (x3_1.size < 4) = true := decide_eq_true zz7
     clear c2
     by_cases c3 : x3_1.size + 1 ≤ 9223372036854775807
     ·
      rw [if_pos c3] at H
      have c3b0 := eq_true c3
      have c3b1 : decide (x3_1.size + 1 ≤ 9223372036854775807) = true := decide_eq_true c3
      try have c3b2 : (9223372036854775807 < x3_1.size + 1) = False := eq_false (Nat.not_lt.2 c3)
      have H' := Aside0.mk H
      clear H
      go_wp2
      go_roundg k1
      case measure => have := HK1.out; omega
      case rel => exact ⟨(x3_1 ++ (⟨#[57]⟩ : ByteArray)), zz0, H', ⟨zz68⟩, zz2⟩
     ·
      rw [if_neg c3] at H
      exact absurd H zz43
    ·
     rw [if_neg c2] at H
     have c2b0 : decide ((x3_1.size : Int) < 4) = false := decide_eq_false c2
     have c2b1 : decide (x3_1.size < 4) = false := decide_eq_false zz7
     clear c2
     by_cases c4 : 0 ≤ 4
     ·
      rw [if_pos c4] at H
      have c4b0 := eq_true c4
      have c4b1 : decide (0 ≤ 4) = true := decide_eq_true c4
      clear c4
      by_cases c5 : 4 ≤ (x3_1.size : Int)
      ·
       rw [if_pos c5] at H
       have c5b0 := eq_true c5
       have c5b1 : decide (4 ≤ (x3_1.size : Int)) = true := decide_eq_true c5
       clear c5
       replace H := Option.bind_eq_some_iff.mp H
       obtain ⟨t172, A60, H⟩ := H
       replace H : (some (decide (t172 ≥ 2050))) = some r := H
       have A6 := Aside0.mk A60
       clear A60
       obtain rfl := Option.some.inj H
       go_wp2_with (first | ((with_reducible refine gate_callee (f := 101) rfl ?_); refine goesL_ (some 12) rfl rfl Try.func101 zz4 rfl #[.string (x3_1.extract 0 4)] rfl zz5 ?_; (with_reducible refine (when_number.calls k1 (x3_1.extract 0 4) t172 _ A6.out).mono ?_); rintro e w' ⟨rfl, ⟨nd, rfl⟩⟩; refine ⟨_, rfl, ?_⟩))
       go_ret
       exact ⟨zz0, zz2⟩
      ·
       rw [if_neg c5] at H
       exact absurd H zz43
     ·
      rw [if_neg c4] at H
      exact absurd H zz43
end Go.Proofs.Ytgddaddoabjgiaa.PB
