/- What the row of ValuePushes stands on, made small by a program of this session (pack.py). -/
import Derived.Test.YtpfconocipmcjaaCValuePushes2
import Derived.Test.YtpfconocipmcjaaCValuePushes21
import Derived.Test.YtpfconocipmcjaaCValuePushes22
import Derived.Test.YtpfconocipmcjaaCValuePushes23
namespace Go.Proofs.Ytpfconocipmcjaa.BDat
open RowKit PC YtpfconocipmcjaaW.PrintWords YtpfconocipmcjaaW.PrintLast YtpfconocipmcjaaW.PrintMore
open Bs
open Dt
set_option linter.unusedVariables false
theorem days_out {y m : Int} (h : y < 0 ∨ y > 9999 ∨ m < 1 ∨ m > 12) : Dt.days y m = 0 := by unfold Dt.days; rw [if_pos h]
theorem days_in {y m : Int} (h : ¬ (y < 0 ∨ y > 9999 ∨ m < 1 ∨ m > 12)) : Dt.days y m = if m = 2 ∧ leap y = true then 29 else tab m := by unfold Dt.days; rw [if_neg h]
theorem rdays_eq (k : Nat) (y m : Int) : gantletref13_Days.f (k + 3) y m = some (Dt.days y m) := by
 unfold gantletref13_Days.f
 by_cases h1 : y < 0
 ·
  rw [if_pos h1, days_out (.inl h1), gantletref13_Days.j0, if_pos rfl]
 rw [if_neg h1]
 by_cases h2 : y > 9999
 ·
  rw [days_out (.inr (.inl h2)), show decide (y > 9999) = true by simpa using h2, gantletref13_Days.j0, if_pos rfl]
 rw [show decide (y > 9999) = false by simpa using h2]
 have t4 : Int.tmod y 4 = y % 4 := Int.tmod_eq_emod_of_nonneg zz3
 have t100 : Int.tmod y 100 = y % 100 := Int.tmod_eq_emod_of_nonneg zz3
 have t400 : Int.tmod y 400 = y % 400 := Int.tmod_eq_emod_of_nonneg zz3
 rw [gantletref13_Days.j0, if_neg zz13]
 by_cases h3 : m < 1 ∨ m > 12
 ·
  rw [days_out zz3, if_neg zz3, if_neg zz3, if_neg zz3, if_neg zz3, if_neg zz3, if_neg zz3, gantletref13_Days.j1, if_neg zz44, if_neg zz3, if_neg zz3, if_neg zz3,
   gantletref13_Days.j2, if_neg zz44, if_neg zz3]
 rw [days_in zz3]
 by_cases hm : m = 2
 ·
  subst hm
  have e : (if (2 : Int) = 2 ∧ leap y = true then (29 : Int) else tab 2) = if leap y = true then 29 else 28 := by simp [tab]
  rw [e]
  have hj : gantletref13_Days.j1 (k + 2) y 2 ((2 : Int) == 12) = (if Int.tmod y 400 = 0 then some 29 else if Int.tmod y 4 = 0 then if Int.tmod y 100 = 0 then some 28 else some 29 else some 28) := rfl
  rw [if_neg zz13, if_neg zz13, if_neg zz13, if_neg zz13, if_neg zz13, if_neg zz13, hj, t4, t100, t400]
  have hl : leap y = true ↔ (y % 4 = 0 ∧ ¬ y % 100 = 0) ∨ y % 400 = 0 := by simp [leap]
  by_cases a : y % 400 = 0
  ·
   rw [if_pos a, if_pos (hl.2 (.inr a))]
  rw [if_neg a]
  by_cases b : y % 4 = 0
  ·
   rw [if_pos b]
   by_cases c : y % 100 = 0
   ·
    rw [if_pos c, if_neg (fun h => by have := hl.1 h; omega)]
   ·
    rw [if_neg c, if_pos (hl.2 (.inl ⟨b, c⟩))]
  ·
   rw [if_neg b, if_neg (fun h => by have := hl.1 h; omega)]
 ·
  rw [if_neg (c := m = 2 ∧ leap y = true) (fun h => hm h.1)]
  rcases (zz3 : m = 1 ∨ m = 3 ∨ m = 4 ∨ m = 5 ∨ m = 6 ∨ m = 7 ∨ m = 8 ∨ m = 9 ∨ m = 10 ∨ m = 11 ∨ m = 12) with rfl | rfl | rfl | rfl | rfl | rfl | rfl | rfl | rfl | rfl | rfl <;> rfl
theorem two_yes (s : ByteArray) (i : Nat) (h : i + 1 < s.size) (hi : i ≤ 100) (ha : Dig (bt s (i : Int))) (hb : Dig (bt s ((i + 1 : Nat) : Int))) : gantletref13_two.f s (i : Int) = some (Dt.two (bytesOf s) i) := by
 unfold Dig at ha hb
 have ra := bt_range s (i : Int); have rb := bt_range s ((i + 1 : Nat) : Int)
 unfold gantletref13_two.f Dt.two
 rw [w64 (x := (i : Int) + 1) zz3 zz3, show ((i : Int) + 1) = ((i + 1 : Nat) : Int) by omega, at_bt, at_bt]
 rw [w64 (x := bt s (i : Int)) zz3 zz3, w64 (x := bt s ((i + 1 : Nat) : Int)) zz3 zz3, w64 (x := bt s (i : Int) - 48) zz3 zz3, w64 (x := bt s ((i + 1 : Nat) : Int) - 48) zz3 zz3]
 rw [if_pos zz3, if_pos zz3, if_pos zz3, if_pos zz3, if_neg zz3, if_neg zz3, if_neg zz3, if_neg zz3, w64 (x := 10 * (bt s (i : Int) - 48)) zz3 zz3, w64 zz3 zz3]
theorem two_no (s : ByteArray) (i : Nat) (h : i + 1 < s.size) (hi : i ≤ 100) (hab : ¬ (Dig (bt s (i : Int)) ∧ Dig (bt s ((i + 1 : Nat) : Int)))) : gantletref13_two.f s (i : Int) = some (-1) := by
 unfold Dig at hab
 have ra := bt_range s (i : Int); have rb := bt_range s ((i + 1 : Nat) : Int)
 unfold gantletref13_two.f
 rw [w64 (x := (i : Int) + 1) zz3 zz3, show ((i : Int) + 1) = ((i + 1 : Nat) : Int) by omega]
 rw [w64 (x := bt s (i : Int)) zz3 zz3, w64 (x := bt s ((i + 1 : Nat) : Int)) zz3 zz3, w64 (x := bt s (i : Int) - 48) zz3 zz3, w64 (x := bt s ((i + 1 : Nat) : Int) - 48) zz3 zz3]
 rw [if_pos zz3, if_pos zz3, if_pos zz3, if_pos zz3]
 by_cases h1 : bt s (i : Int) - 48 < 0
 ·
  rw [if_pos h1]
 rw [if_neg h1]
 by_cases h2 : bt s (i : Int) - 48 > 9
 ·
  rw [if_pos h2]
 rw [if_neg h2]
 by_cases h3 : bt s ((i + 1 : Nat) : Int) - 48 < 0
 ·
  rw [if_pos h3]
 rw [if_neg h3, if_pos zz3]
theorem date_yes (s : ByteArray) (h : s.size = 14) (hd : Digs (bytesOf s)) : ∀ (d k i : Nat), i + 2 * d = 14 → gantletref13_Date.l0 (k + d) s (i : Int) = gantletref13_Date.l0 k s 14 := by
 have hb : ∀ i : Nat, i < 14 → Dig (bt s (i : Int)) := by
  intro i hi
  have := at_dig hd i zz3
  unfold Dig; omega
 intro d
 induction d with
 | zero => intro k i hi; rw [show i = 14 by omega]; rfl
 | succ d ih =>
   intro k i hi
   have hr := at_range hd (i := i) zz46
   have hr2 := at_range hd (i := i + 1) zz46
   rw [show k + (d + 1) = (k + d) + 1 by omega, gantletref13_Date.l0, if_pos zz3, two_yes s i zz3 zz3 (hb i zz3) (hb (i + 1) zz3)]
   simp only [Option.bind_some]
   rw [if_neg (by unfold Dt.two; omega), w64 zz3 zz3, show ((i : Int) + 2) = ((i + 2 : Nat) : Int) by omega]
   exact ih k (i + 2) zz3
theorem date_no (s : ByteArray) (h : s.size = 14) : ∀ (d k i : Nat), i + 2 * d = 14 → (∃ j, i ≤ j ∧ j < 14 ∧ ¬ Dig (bt s (j : Int))) → gantletref13_Date.l0 (k + d) s (i : Int) = some false := by
 intro d
 induction d with
 | zero => rintro k i hi ⟨j, h1, h2, _⟩; omega
 | succ d ih =>
   rintro k i hi ⟨j, h1, h2, h3⟩
   rw [show k + (d + 1) = (k + d) + 1 by omega, gantletref13_Date.l0, if_pos zz3]
   by_cases hg : Dig (bt s (i : Int)) ∧ Dig (bt s ((i + 1 : Nat) : Int))
   ·
    rw [two_yes s i zz3 zz3 hg.1 hg.2]
    simp only [Option.bind_some]
    obtain ⟨g1, g2⟩ := hg
    have e1 := at_bt s i; have e2 := at_bt s (i + 1)
    rw [if_neg (by unfold Dig at g1 g2; unfold Dt.two; omega), w64 zz3 zz3, show ((i : Int) + 2) = ((i + 2 : Nat) : Int) by omega]
    refine ih k (i + 2) zz3 ⟨j, ?_, h2, h3⟩
    rcases (zz3 : j = i ∨ j = i + 1 ∨ i + 2 ≤ j) with rfl | rfl | h4
    ·
     exact absurd g1 h3
    ·
     exact absurd g2 h3
    ·
     exact h4
   ·
    rw [two_no s i zz3 zz3 hg]; rfl
theorem not_digs {s : ByteArray} (h : ¬ Digs (bytesOf s)) : ∃ j : Nat, j < s.size ∧ ¬ Dig (bt s (j : Int)) := by
 apply Classical.byContradiction
 intro hn
 apply h
 intro b hb
 obtain ⟨i, hi, rfl⟩ := List.getElem_of_mem hb
 rw [bytesOf_length] at hi
 apply Classical.byContradiction
 intro hd
 refine hn ⟨i, hi, ?_⟩
 rw [bt_get, Int.toNat_natCast, List.getD_eq_getElem?_getD, List.getElem?_eq_getElem (by rw [bytesOf_length]; exact hi)]
 exact hd
open Classical in
theorem date_eq (k : Nat) (hk : 30 ≤ k) (s : ByteArray) : gantletref13_Date.f k s = some (decide (full (bytesOf s))) := by
 unfold gantletref13_Date.f
 by_cases h : s.size = 14
 ·
  rw [if_pos zz3]
  obtain ⟨k, rfl⟩ : ∃ m, k = (m + 5) + 7 := ⟨k - 12, zz3⟩
  by_cases hd : Digs (bytesOf s)
  ·
   have := date_yes s h hd 7 (k + 5) 0 zz3
   rw [show ((0 : Nat) : Int) = 0 from rfl] at this
   rw [this]
   have hb : ∀ i : Nat, i < 14 → Dig (bt s (i : Int)) := by
    intro i hi
    have := at_dig hd i zz3
    unfold Dig; omega
   have ht : ∀ i : Nat, i + 1 < 14 → gantletref13_two.f s (i : Int) = some (Dt.two (bytesOf s) i) := fun i hi => two_yes s i zz3 zz3 (hb i zz3) (hb (i + 1) zz3)
   have t0 := ht 0 zz3; have t2 := ht 2 zz3; have t4 := ht 4 zz3; have t6 := ht 6 zz3; have t8 := ht 8 zz3; have t10 := ht 10 zz3; have t12 := ht 12 zz3
   have r := fun i (hi : i < 14) => at_range hd (i := i) zz46
   have r0 := r 0 zz3; have r1 := r 1 zz3; have r2 := r 2 zz3; have r3 := r 3 zz3
   have hy : wrap64 ((wrap64 (100 * Dt.two (bytesOf s) 0)) + Dt.two (bytesOf s) 2) = yr (bytesOf s) := by
    unfold Dt.two yr
    simp only [Nat.zero_add, Nat.reduceAdd]
    rw [w64 (x := 100 * _) zz3 zz3, w64 zz3 zz3]; omega
   rw [gantletref13_Date.l0, if_neg zz13]
   rw [show (6 : Int) = ((6 : Nat) : Int) from rfl, t6]
   simp only [Option.bind_some]
   have hfull : full (bytesOf s) ↔ 1 ≤ Dt.two (bytesOf s) 6 ∧ Dt.two (bytesOf s) 6 ≤ Dt.days (yr (bytesOf s)) (Dt.two (bytesOf s) 4) ∧ Dt.two (bytesOf s) 8 < 24 ∧ Dt.two (bytesOf s) 10 < 60 ∧ Dt.two (bytesOf s) 12 < 60 := by
    unfold full
    rw [bytesOf_length]
    constructor
    ·
     rintro ⟨_, _, h1⟩; exact h1
    ·
     intro h1; exact ⟨h, hd, h1⟩
   have hj : ∀ x : Bool, gantletref13_Date.j1 (k + 4) s x = some (!x && (decide (Dt.two (bytesOf s) 8 < 24) && (decide (Dt.two (bytesOf s) 10 < 60) && decide (Dt.two (bytesOf s) 12 < 60)))) := by
    intro x
    rw [gantletref13_Date.j1]
    cases x with
    | true => rw [if_pos rfl]; rfl
    | false =>
      rw [if_neg zz13, show (8 : Int) = ((8 : Nat) : Int) from rfl, t8, show (10 : Int) = ((10 : Nat) : Int) from rfl, t10, show (12 : Int) = ((12 : Nat) : Int) from rfl, t12]
      simp only [Option.bind_some]
      by_cases a : Dt.two (bytesOf s) 8 < 24
      ·
       rw [if_pos a]
       by_cases b : Dt.two (bytesOf s) 10 < 60
       ·
        rw [if_pos b]; simp [a, b]
       ·
        rw [if_neg b]; simp [b]
      ·
       rw [if_neg a]; simp [a]
   by_cases h1 : Dt.two (bytesOf s) 6 < 1
   ·
    rw [if_pos h1, hj]
    congr 1
    rw [Bool.not_true, Bool.false_and]
    symm; simp only [decide_eq_false_iff_not, hfull]; omega
   ·
    rw [if_neg h1, show (0 : Int) = ((0 : Nat) : Int) from rfl, t0, show (2 : Int) = ((2 : Nat) : Int) from rfl, t2, show (4 : Int) = ((4 : Nat) : Int) from rfl, t4]
    simp only [Option.bind_some]
    rw [hy, rdays_eq (k + 1)]
    simp only [Option.bind_some]
    rw [hj]
    congr 1
    rw [Bool.eq_iff_iff, decide_eq_true_iff, hfull]
    simp
    omega
  ·
   obtain ⟨j, h1, h2⟩ := not_digs hd
   have := date_no s h 7 (k + 5) 0 zz3 ⟨j, zz3, zz3, h2⟩
   rw [show ((0 : Nat) : Int) = 0 from rfl] at this
   rw [this]
   congr 1; symm
   rw [decide_eq_false_iff_not]
   exact fun hf => hd hf.2.1
 ·
  rw [if_neg zz3]
  congr 1; symm
  rw [decide_eq_false_iff_not]
  intro hf
  have := hf.1
  rw [bytesOf_length] at this; exact h this
end Go.Proofs.Ytpfconocipmcjaa.BDat
