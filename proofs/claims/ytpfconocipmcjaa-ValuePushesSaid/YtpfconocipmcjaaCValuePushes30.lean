/- What the row of ValuePushes stands on, made small by a program of this session (pack.py). -/
import Derived.Test.YtpfconocipmcjaaCValuePushes2
import Derived.Test.YtpfconocipmcjaaCValuePushes6
import Derived.Test.YtpfconocipmcjaaCValuePushes19
import Derived.Test.YtpfconocipmcjaaCValuePushes20
import Derived.Test.YtpfconocipmcjaaCValuePushes25
import Derived.Test.YtpfconocipmcjaaCValuePushes26
import Derived.Test.YtpfconocipmcjaaCValuePushes27
import Derived.Test.YtpfconocipmcjaaCValuePushes28
import Derived.Test.YtpfconocipmcjaaCValuePushes29
namespace Go.Proofs.Ytpfconocipmcjaa.Vp
open RowKit PC YtpfconocipmcjaaW.PrintWords YtpfconocipmcjaaW.PrintLast YtpfconocipmcjaaW.PrintMore
open Bs
open BNum (okN okP wr)
open BDat (lenOf)
set_option linter.unusedVariables false
set_option linter.unusedSimpArgs false
def runC : Cs → List Int → Option Cs
 | s, [] => some s
 | s, b :: r => match pushC s b with
   | none => none
   | some s' => runC s' r
theorem wrRun_all : ∀ (l : List Int) (s : Cs) (i : Int), (runC s l).isSome = true → wrRun s l i = -1
 | [], s, i, h => rfl
 | b :: r, s, i, h => by
   unfold runC at h
   unfold wrRun
   cases hp : pushC s b with
   | none => rw [hp] at h; cases h
   | some s' => rw [hp] at h; exact wrRun_all r s' (i + 1) h
theorem wrRun_at : ∀ (l : List Int) (s : Cs) (i : Int) (a : Nat), a ≤ l.length → 0 < a → (∀ j, j < a → (runC s (l.take j)).isSome = true) → (runC s (l.take a)).isSome = false → wrRun s l i = i + (a : Int) - 1
 | [], s, i, a, h1, h2, h3, h4 => by simp only [List.length_nil] at h1; omega
 | b :: r, s, i, a + 1, h1, h2, h3, h4 => by
   rw [List.take_succ_cons] at h4
   unfold runC at h4
   unfold wrRun
   cases hp : pushC s b with
   | none =>
     cases a with
     | zero => simp only; omega
     | succ a =>
       have h5 := h3 1 zz3
       rw [List.take_succ_cons] at h5
       unfold runC at h5
       rw [hp] at h5
       cases h5
   | some s' =>
     rw [hp] at h4
     simp only at h4 ⊢
     cases a with
     | zero => rw [List.take_zero] at h4; cases h4
     | succ a =>
       rw [wrRun_at r s' (i + 1) (a + 1) (by simp only [List.length_cons] at h1; omega) zz3 (fun j hj => ?_) h4]
       ·
        omega
       ·
        have h5 := h3 (j + 1) zz3
        rw [List.take_succ_cons] at h5
        unfold runC at h5
        rw [hp] at h5
        exact h5
def canC (tag n : Int) (l : List Int) : Bool := ((startC tag n).bind fun s => runC s l).isSome
theorem wrC_of {tag n : Int} {l : List Int} {at_ : Int}
 (h : (at_ = -1 ∧ ∀ j, j ≤ l.length → canC tag n (l.take j) = true) ∨ (∃ a : Nat, at_ = a ∧ a ≤ l.length ∧ canC tag n (l.take a) = false ∧ ∀ j, j < a → canC tag n (l.take j) = true)) : at_ = wrC tag n l := by
 unfold canC at h
 unfold wrC
 cases hs : startC tag n with
 | none =>
   rw [hs] at h
   rcases h with ⟨h1, h2⟩ | ⟨a, h1, h2, h3, h4⟩
   ·
    have := h2 0 zz3; cases this
   ·
    cases a with
    | zero => exact h1
    | succ a => have := h4 0 zz3; cases this
 | some s =>
   rw [hs] at h
   simp only [Option.bind_some] at h
   rcases h with ⟨h1, h2⟩ | ⟨a, h1, h2, h3, h4⟩
   ·
    have h5 := h2 l.length zz3
    rw [List.take_length] at h5
    exact h1.trans (wrRun_all l s 1 h5).symm
   ·
    cases a with
    | zero => rw [List.take_zero] at h3; cases h3
    | succ a => exact (show at_ = 1 + ((a + 1 : Nat) : Int) - 1 by omega).trans (wrRun_at l s 1 (a + 1) h2 zz3 h4 h3).symm
theorem run_txt (tag : Int) : ∀ (l : List Int) (s : Tx.St), (runC (.txt tag s.1 s.2.1 s.2.2.1 s.2.2.2) l).isSome = (Tx.run tag s l).isSome
 | [], s => rfl
 | b :: r, s => by
   unfold runC Tx.run
   simp only [pushC]
   cases hp : Tx.stp tag s b with
   | none => rfl
   | some s' => exact run_txt tag r s'
theorem run_whn (u : Bool) : ∀ (l : List Int) (s : Dt.St), (runC (.whn u s.1 s.2) l).isSome = (Dt.run u s l).isSome
 | [], s => rfl
 | b :: r, s => by
   unfold runC Dt.run
   simp only [pushC]
   cases hp : Dt.stp u s b with
   | none => rfl
   | some s' => exact run_whn u r s'
theorem run_num (tag n : Int) : ∀ (l : List Int) (a f : Int), 2 ≤ a → tag ≠ 1 → (runC (.num tag n a f) l).isSome = true
 | [], a, f, h, ht => rfl
 | b :: r, a, f, h, ht => by
   unfold runC
   simp only [pushC]
   rw [if_pos (by unfold okP; rw [if_neg ht, if_neg zz3])]
   exact run_num tag n r (a + 1) _ zz3 ht
theorem wr_num {tag n : Int} (ht : tag = 1 ∨ tag = 2 ∨ tag = 5 ∨ tag = 10) (hn : 0 ≤ n) (l : List Int) (hl : (l.length : Int) ≤ n) : wr tag n l = wrC tag n l := by
 have h00 : ¬ (tag = 0 ∨ tag = 16 ∨ tag = 17) := by omega
 unfold wrC startC wr
 rw [if_neg h00, if_pos ht]
 by_cases ho : okN tag n = true
 ·
  have h01 : ¬ (okN tag n = false ∨ n < 0) := by rw [ho]; simp; omega
  rw [if_neg h01, if_pos ho]
  simp only
  rcases ht with rfl | rfl | rfl | rfl
  ·
   have h1 : n = 1 := by simpa [okN] using ho
   rw [if_pos rfl]
   cases l with
   | nil => rfl
   | cons b r =>
     have hr : r = [] := List.eq_nil_of_length_eq_zero (by simp only [List.length_cons] at hl; omega)
     subst hr
     simp only [wrRun, pushC]
     by_cases hb : okP 1 0 0 b = true
     ·
      rw [if_pos hb, if_pos hb]
     ·
      rw [if_neg hb, if_neg hb]
  ·
   rw [if_neg zz13, if_pos zz13]
   cases l with
   | nil => rfl
   | cons a r =>
     have h0 : pushC (.num 2 n 0 0) a = some (.num 2 n 1 a) := by simp [pushC, okP]
     rw [wrRun, h0]
     cases r with
     | nil => rfl
     | cons b r =>
       simp only [wrRun]
       by_cases hb : okP 2 1 a b = true
       ·
        rw [if_pos hb, show pushC (.num 2 n 1 a) b = some (.num 2 n 2 a) by simp [pushC, hb]]
        exact (wrRun_all r _ _ (run_num 2 n r 2 a zz3 zz13)).symm
       ·
        rw [if_neg hb, show pushC (.num 2 n 1 a) b = none by simp [pushC, hb]]
        rfl
  ·
   have h1 : n = 0 := by simpa [okN] using ho
   have hr : l = [] := List.eq_nil_of_length_eq_zero zz3
   subst hr
   rfl
  ·
   rw [if_neg zz13, if_pos zz13]
   cases l with
   | nil => rfl
   | cons a r =>
     have h0 : pushC (.num 10 n 0 0) a = some (.num 10 n 1 a) := by simp [pushC, okP]
     rw [wrRun, h0]
     cases r with
     | nil => rfl
     | cons b r =>
       simp only [wrRun]
       by_cases hb : okP 10 1 a b = true
       ·
        rw [if_pos hb, show pushC (.num 10 n 1 a) b = some (.num 10 n 2 a) by simp [pushC, hb]]
        exact (wrRun_all r _ _ (run_num 10 n r 2 a zz3 zz13)).symm
       ·
        rw [if_neg hb, show pushC (.num 10 n 1 a) b = none by simp [pushC, hb]]
        rfl
 ·
  have h01 : okN tag n = false ∨ n < 0 := .inl (by simpa using ho)
  rw [if_pos h01, if_neg ho]
theorem wr_txt {tag n : Int} (h0 : ¬ (tag = 0 ∨ tag = 16 ∨ tag = 17)) (h1 : ¬ (tag = 1 ∨ tag = 2 ∨ tag = 5 ∨ tag = 10)) (h6 : tag ≠ 6) (h3 : tag ≠ 3) (hw : ¬ (tag = 23 ∨ tag = 24)) (hn : 0 ≤ n)
 (s : ByteArray) (hs : (s.size : Int) ≤ n) (h7 : s.size ≤ 60000) (k : Nat) (hk : 200000 ≤ k) : gantletref14_Wrong.f k tag n s = some (wrC tag n (bytesOf s)) := by
 obtain ⟨at_, h, hw2⟩ := RTxt.wrong_eq tag n s zz3 k zz3
 rw [h]
 have hl := bytesOf_length s
 have hc : ∀ j, canC tag n ((bytesOf s).take j) = Tx.can tag n ((bytesOf s).take j) := by
  intro j
  unfold canC startC
  rw [if_neg h0, if_neg h1, if_neg h6, if_neg h3, if_neg hw, if_neg zz3, Option.bind_some]
  rw [← Tx.run_is tag n _ (fun b hb => bytes_of s b (List.mem_of_mem_take hb)) (by rw [List.length_take]; omega)]
  exact run_txt tag _ (n, 0, 0, 0)
 refine congrArg some (wrC_of ?_)
 simp only [hc]
 rw [hl]
 exact hw2
theorem wr_whn {tag n : Int} (ht : tag = 23 ∨ tag = 24) (s : ByteArray) (hs : (s.size : Int) ≤ n) (h20 : s.size ≤ 20) (k : Nat) (hk : 500 ≤ k) : gantletref13_Wrong.f k tag n s = some (wrC tag n (bytesOf s)) := by
 have q1 : ¬ (tag = 0 ∨ tag = 16 ∨ tag = 17) := by omega
 have q2 : ¬ (tag = 1 ∨ tag = 2 ∨ tag = 5 ∨ tag = 10) := by omega
 have q3 : ¬ tag = 6 := by omega
 have q4 : ¬ tag = 3 := by omega
 obtain ⟨at_, h, hw2⟩ := BDat.wrong_eq tag n s hs h20 k hk
 rw [h]
 have hl := bytesOf_length s
 have hc : ∀ j, (canC tag n ((bytesOf s).take j) = true ↔ BDat.CanP tag n ((bytesOf s).take j)) := by
  intro j
  unfold canC startC BDat.CanP
  rw [if_neg q1, if_neg q2, if_neg q3, if_neg q4, if_pos ht]
  by_cases hg : (tag = 23 ∧ n = 13) ∨ (tag = 24 ∧ n = 15)
  ·
   rw [if_pos hg, Option.bind_some]
   have hr := run_whn (decide (tag = 23)) ((bytesOf s).take j) ([], n)
   simp only at hr
   rw [hr]
   constructor
   ·
    intro hx
    refine ⟨decide (tag = 23), ?_, ?_, ?_⟩
    ·
     rcases hg with ⟨rfl, rfl⟩ | ⟨rfl, rfl⟩ <;> rfl
    ·
     rcases hg with ⟨rfl, rfl⟩ | ⟨rfl, rfl⟩ <;> rfl
    ·
     rcases hg with ⟨rfl, rfl⟩ | ⟨rfl, rfl⟩ <;> exact hx
   ·
    rintro ⟨u, h1, h2, h3⟩
    cases u
    ·
     obtain rfl : tag = 24 := h1
     obtain rfl : n = 15 := h2
     exact h3
    ·
     obtain rfl : tag = 23 := h1
     obtain rfl : n = 13 := h2
     exact h3
  ·
   rw [if_neg hg]
   constructor
   ·
    intro hx; cases hx
   ·
    rintro ⟨u, h1, h2, h3⟩
    exfalso
    apply hg
    cases u
    ·
     exact .inr ⟨h1, h2⟩
    ·
     exact .inl ⟨h1, h2⟩
 refine congrArg some (wrC_of ?_)
 rw [hl]
 rcases hw2 with ⟨g1, g2⟩ | ⟨a, g1, g2, g3, g4⟩
 ·
  exact .inl ⟨g1, fun j hj => (hc j).2 (g2 j hj)⟩
 ·
  exact .inr ⟨a, g1, g2, by rw [← Bool.not_eq_true]; exact fun hx => g3 ((hc a).1 hx), fun j hj => (hc j).2 (g4 j hj)⟩
theorem oid_l0 (n : Int) (hn1 : 1 ≤ n) (hn2 : n ≤ 2305843009213693951) (s : ByteArray) (hs : (s.size : Int) ≤ n) (h7 : s.size ≤ 60000) : ∀ (d k i : Nat) (w : Bool), i + d = s.size → 2 * d + 2 ≤ k → (w = true ↔ 0 < i ∧ 128 ≤ bt s ((i : Int) - 1)) →
 gantletref11_Wrong.l0 k n s (i : Int) = some (wrRun (.oid (n - i) w) ((bytesOf s).drop i) ((i : Int) + 1)) := by
 intro d
 induction d with
 | zero =>
   intro k i w hi hk hw
   obtain ⟨k, rfl⟩ : ∃ m, k = m + 1 := ⟨k - 1, zz3⟩
   rw [gantletref11_Wrong.l0, if_neg zz3, List.drop_eq_nil_of_le zz46]
   rfl
 | succ d ih =>
   intro k i w hi hk hw
   obtain ⟨k, rfl⟩ : ∃ m, k = m + 1 := ⟨k - 1, zz3⟩
   obtain ⟨k, rfl⟩ : ∃ m, k = m + 1 := ⟨k - 1, zz3⟩
   have hd := drop_at s (i : Int) zz3 zz3
   rw [Int.toNat_natCast, show ((i : Int) + 1).toNat = i + 1 by omega] at hd
   rw [hd, wrRun, gantletref11_Wrong.l0, if_pos zz3, if_pos zz3]
   have hj : ∀ c : Bool, (c = true ↔ (w = false ∧ bt s (i : Int) = 128)) → gantletref11_Wrong.j1 (k + 1) n s (i : Int) c = some (match pushC (.oid (n - i) w) (bt s (i : Int)) with
    | none => (i : Int) + 1
    | some s' => wrRun s' ((bytesOf s).drop (i + 1)) ((i : Int) + 1 + 1)) := by
    intro c hc
    have h2 := ih k (i + 1) (decide (128 ≤ bt s (i : Int))) zz3 zz3 (by rw [decide_eq_true_iff, show ((i + 1 : Nat) : Int) - 1 = (i : Int) by omega]; exact ⟨fun h => ⟨zz3, h⟩, fun h => h.2⟩)
    rw [show ((i + 1 : Nat) : Int) = (i : Int) + 1 by omega, show n - ((i : Int) + 1) = n - (i : Int) - 1 by omega] at h2
    rw [gantletref11_Wrong.j1, w64 (x := (i : Int) + 1) zz3 zz3]
    simp only [pushC]
    by_cases h0 : c = true
    ·
     rw [if_pos h0, if_pos (.inl (hc.1 h0))]
    rw [if_neg h0]
    have h0' : ¬ (w = false ∧ bt s (i : Int) = 128) := fun h => h0 (hc.2 h)
    rw [w64 (x := n - 1) zz3 zz3]
    by_cases h1 : (i : Int) = n - 1
    ·
     rw [if_pos h1, if_pos zz3, if_pos zz3]
     by_cases h3 : bt s (i : Int) > 127
     ·
      rw [if_pos h3, if_pos (.inr ⟨zz3, zz3⟩)]
     ·
      rw [if_neg h3, if_neg (fun h => h.elim h0' (fun h => by omega))]
      exact h2
    ·
     rw [if_neg h1, if_neg (fun h => h.elim h0' (fun h => by omega))]
     exact h2
   by_cases h1 : bt s (i : Int) = 128
   ·
    rw [if_pos h1]
    by_cases h0 : (i : Int) = 0
    ·
     rw [if_pos h0]
     exact hj true ⟨fun _ => ⟨by cases w; rfl; exact absurd (hw.1 rfl).1 zz3, h1⟩, fun _ => rfl⟩
    ·
     rw [if_neg h0, w64 (x := (i : Int) - 1) zz3 zz3, if_pos zz3, if_pos zz3]
     refine hj _ ?_
     rw [decide_eq_true_iff]
     refine ⟨fun h => ⟨?_, h1⟩, fun h => ?_⟩
     ·
      cases w
      ·
       rfl
      ·
       exact absurd (hw.1 rfl).2 zz3
     ·
      by_cases h3 : bt s ((i : Int) - 1) < 128
      ·
       exact h3
      ·
       have := hw.2 ⟨zz3, zz3⟩
       rw [h.1] at this; cases this
   ·
    rw [if_neg h1]
    exact hj false ⟨fun h => (by cases h), fun h => absurd h.2 h1⟩
theorem wr_oid {n : Int} (hn2 : n ≤ 2305843009213693951) (s : ByteArray) (hs : (s.size : Int) ≤ n) (h7 : s.size ≤ 60000) (k : Nat) (hk : 200000 ≤ k) : gantletref11_Wrong.f k n s = some (wrC 6 n (bytesOf s)) := by
 have hw : wrC 6 n (bytesOf s) = if n < 1 then 0 else wrRun (.oid n false) (bytesOf s) 1 := by
  unfold wrC startC
  rw [if_neg zz13, if_neg zz13, if_pos rfl]
  by_cases hn : n < 1
  ·
   rw [if_pos hn, if_pos hn]
  ·
   rw [if_neg hn, if_neg hn]
 rw [hw]
 unfold gantletref11_Wrong.f
 by_cases hn : n < 1
 ·
  rw [if_pos hn, if_pos hn]
 ·
  rw [if_neg hn, if_neg hn]
  have := oid_l0 n zz3 hn2 s hs h7 s.size k 0 false zz3 zz3 zz29
  rw [show ((0 : Nat) : Int) = 0 from rfl] at this
  rw [this]
  simp
theorem run_bit (u : Int) : ∀ (r : List Int) (m i : Int), (r.length : Int) ≤ m → wrRun (.bit m true u) r i = if (r.length : Int) = m ∧ r ≠ [] ∧ bitBad u (r.getD (r.length - 1) 0) = true then i + m - 1 else -1
 | [], m, i, h => by rw [if_neg (fun h => h.2.1 rfl)]; rfl
 | b :: r, m, i, h => by
   simp only [List.length_cons] at h
   rw [wrRun]
   simp only [pushC, if_pos]
   by_cases hm : m - 1 = 0
   ·
    have hr : r = [] := List.eq_nil_of_length_eq_zero zz3
    subst hr
    by_cases hb : bitBad u b = true
    ·
     rw [if_pos ⟨hm, hb⟩, if_pos ⟨zz44, zz29, hb⟩]; simp only; omega
    ·
     rw [if_neg (fun h => hb h.2), if_neg (fun h => hb h.2.2)]; rfl
   ·
    rw [if_neg (fun h => hm h.1)]
    simp only
    rw [run_bit u r (m - 1) (i + 1) zz3]
    cases r with
    | nil => rw [if_neg (fun h => h.2.1 rfl), if_neg (fun h => by have := h.1; simp at this; omega)]
    | cons c r =>
      have e : (b :: c :: r).getD ((b :: c :: r).length - 1) 0 = (c :: r).getD ((c :: r).length - 1) 0 := by simp
      rw [e]
      by_cases hx : ((c :: r).length : Int) = m - 1 ∧ (c :: r) ≠ [] ∧ bitBad u ((c :: r).getD ((c :: r).length - 1) 0) = true
      ·
       rw [if_pos hx, if_pos ⟨by have := hx.1; simp only [List.length_cons] at this ⊢; omega, zz29, hx.2.2⟩]; omega
      ·
       rw [if_neg hx, if_neg (fun h => hx ⟨by have := h.1; simp only [List.length_cons] at this ⊢; omega, zz29, h.2.2⟩)]
theorem low_all : ∀ u : Nat, u < 8 → ∀ b : Nat, b < 256 → gantletref12_low.f 20 (b : Int) (u : Int) = some (if bitBad (u : Int) (b : Int) = true then (b : Int) % 2 ^ u else 0) ∧ (bitBad (u : Int) (b : Int) = true → (b : Int) % 2 ^ u ≠ 0) := by decide +kernel
theorem low_eq (u b : Int) (hu : 0 ≤ u ∧ u ≤ 7) (hb : 0 ≤ b ∧ b < 256) (k : Nat) (hk : 20 ≤ k) : ∃ t, gantletref12_low.f k b u = some t ∧ (t = 0 ↔ bitBad u b = false) := by
 obtain ⟨h1, h2⟩ := low_all u.toNat zz3 b.toNat zz3
 rw [Int.toNat_of_nonneg hu.1, Int.toNat_of_nonneg hb.1] at h1 h2
 refine ⟨_, at_rounds (g := fun k => gantletref12_low.f k b u) (fun k => gantletref12_low.mono b u k) hk h1, ?_⟩
 cases hx : bitBad u b with
 | true => rw [if_pos rfl]; exact ⟨fun h => absurd h (h2 hx), fun h => by cases h⟩
 | false => simp
theorem wr_bit {n : Int} (hn2 : n ≤ 2305843009213693951) (s : ByteArray) (hs : (s.size : Int) ≤ n) (h7 : s.size ≤ 60000) (k : Nat) (hk : 50 ≤ k) : gantletref12_Wrong.f k n s = some (wrC 3 n (bytesOf s)) := by
 obtain ⟨k, rfl⟩ : ∃ m, k = m + 1 := ⟨k - 1, zz3⟩
 have hl := bytesOf_length s
 have hw : wrC 3 n (bytesOf s) = if n < 1 then 0 else wrRun (.bit n false 0) (bytesOf s) 1 := by
  unfold wrC startC
  rw [if_neg zz13, if_neg zz13, if_neg zz13, if_pos rfl]
  by_cases hn : n < 1
  ·
   rw [if_pos hn, if_pos hn]
  ·
   rw [if_neg hn, if_neg hn]
 rw [hw]
 unfold gantletref12_Wrong.f
 by_cases hn : n < 1
 ·
  rw [if_pos hn, if_pos hn]
 rw [if_neg hn, if_neg hn]
 simp only [gantletref12_Wrong.j0]
 by_cases h0 : (s.size : Int) > 0
 ·
  rw [if_pos h0, if_pos h0]
  have hd := drop_at s 0 zz3 zz3
  simp only [Int.toNat_zero, List.drop_zero] at hd
  rw [show ((0 : Int) + 1).toNat = 1 by decide] at hd
  have hb := bt_range s 0
  have hp : pushC (.bit n false 0) (bt s 0) = if 7 < bt s 0 ∨ (0 < bt s 0 ∧ n - 1 = 0) then none else some (.bit (n - 1) true (bt s 0)) := by simp [pushC]
  have hd2 : wrRun (.bit n false 0) (bytesOf s) 1 = if 7 < bt s 0 ∨ (0 < bt s 0 ∧ n - 1 = 0) then 1 else wrRun (.bit (n - 1) true (bt s 0)) ((bytesOf s).drop 1) 2 := by
   rw [hd, wrRun, hp]
   split <;> rename_i hh
   ·
    split at hh
    ·
     rw [if_pos (by assumption)]
    ·
     cases hh
   ·
    split at hh
    ·
     cases hh
    ·
     cases hh; rw [if_neg (by assumption)]; rfl
  rw [hd2]
  by_cases h1 : bt s 0 > 7
  ·
   rw [if_pos h1, if_pos (by trivial), if_pos (.inl h1)]
  rw [if_neg h1]
  by_cases h2 : n = 1
  ·
   by_cases h3 : bt s 0 = 0
   ·
    have hr : (bytesOf s).drop 1 = [] := List.drop_eq_nil_of_le zz3
    have h4 : (bt s 0 != 0) = false := by simp [h3]
    have h5 : ¬ (7 < bt s 0 ∨ (0 < bt s 0 ∧ n - 1 = 0)) := by omega
    have h6 : ¬ n > 1 := by omega
    rw [if_pos h2, h4, if_neg zz13, if_neg h6, if_neg h5, hr]
    rfl
   ·
    have h4 : (bt s 0 != 0) = true := by simp [h3]
    have h5 : 7 < bt s 0 ∨ (0 < bt s 0 ∧ n - 1 = 0) := by omega
    rw [if_pos h2, h4, if_pos rfl, if_pos h5]
  ·
   have h5 : ¬ (7 < bt s 0 ∨ (0 < bt s 0 ∧ n - 1 = 0)) := by omega
   have h6 : n > 1 := by omega
   rw [if_neg h2, if_neg zz13, if_pos h6, if_neg h5]
   rw [run_bit _ _ _ _ (by rw [List.length_drop]; omega), List.length_drop, hl]
   by_cases h3 : (s.size : Int) = n
   ·
    rw [if_pos h3, w64 (x := n - 1) zz3 zz3, w64 (x := bt s 0) zz3 zz3, if_pos zz3, if_pos zz3, if_pos zz3]
    obtain ⟨t, ht, hz⟩ := low_eq (bt s 0) (bt s (n - 1)) ⟨zz3, zz3⟩ ⟨(bt_range s (n - 1)).1, by have := (bt_range s (n - 1)).2; omega⟩ k zz3
    rw [ht, Option.bind_some]
    have hg : ((bytesOf s).drop 1).getD (s.size - 1 - 1) 0 = bt s (n - 1) := by
     rw [bt_get, List.getD_eq_getElem?_getD, List.getD_eq_getElem?_getD, List.getElem?_drop, show 1 + (s.size - 1 - 1) = (n - 1).toNat by omega]
    rw [hg]
    by_cases hx : bitBad (bt s 0) (bt s (n - 1)) = true
    ·
     rw [if_neg (fun h => by have := hz.1 h; rw [hx] at this; cases this), if_pos ⟨zz3, fun h => by have := congrArg List.length h; rw [List.length_drop] at this; simp at this; omega, hx⟩]
     exact congrArg some zz3
    ·
     rw [if_pos (hz.2 (by simpa using hx)), if_neg (fun h => hx h.2.2)]
   ·
    rw [if_neg h3, if_neg (fun h => by have := h.1; omega)]
 ·
  have hr : bytesOf s = [] := List.eq_nil_of_length_eq_zero zz3
  rw [if_neg h0, hr]
  simp only [Bool.false_eq_true, if_false]
  by_cases h1 : n > 1
  ·
   rw [if_pos h1, if_neg zz3]; rfl
  ·
   rw [if_neg h1]; rfl
end Go.Proofs.Ytpfconocipmcjaa.Vp
namespace Go.Proofs.Ytpfconocipmcjaa.Vp
open RowKit PC YtpfconocipmcjaaW.PrintWords YtpfconocipmcjaaW.PrintLast YtpfconocipmcjaaW.PrintMore Own Sl
open Bs
set_option linter.unusedVariables false
set_option linter.unusedSimpArgs false
theorem of_drawn0 {w w' : World} (h : Drawn0 w w') : Upd None0 w w' := by obtain ⟨m, rfl⟩ := h; exact (Upd.refl _ _).drewN m
theorem wr_whn2 {tag n : Int} (ht : tag = 23 ∨ tag = 24) (s : ByteArray) (h0 : 0 ≤ n) (hs : (s.size : Int) ≤ n) (h7 : s.size ≤ 60000) (k : Nat) (hk : 500 ≤ k) : gantletref13_Wrong.f k tag n s = some (wrC tag n (bytesOf s)) := by
 by_cases h20 : s.size ≤ 20
 ·
  exact wr_whn ht s hs h20 k hk
 have hc : ¬ BDat.CanP tag n ((bytesOf s).take 0) := by
  rintro ⟨u, h1, h2, h3⟩
  cases u
  ·
   have : n = 15 := h2
   omega
  ·
   have : n = 13 := h2
   omega
 have hz : (s.extract 0 0).size = 0 := by rw [ByteArray.size_extract]; omega
 obtain ⟨k, rfl⟩ : ∃ m, k = m + 1 := ⟨k - 1, zz3⟩
 have q1 : ¬ (tag = 0 ∨ tag = 16 ∨ tag = 17) := by omega
 have q2 : ¬ (tag = 1 ∨ tag = 2 ∨ tag = 5 ∨ tag = 10) := by omega
 have q3 : ¬ tag = 6 := by omega
 have q4 : ¬ tag = 3 := by omega
 have q5 : ¬ ((tag = 23 ∧ n = 13) ∨ (tag = 24 ∧ n = 15)) := by omega
 have hw : wrC tag n (bytesOf s) = 0 := by
  unfold wrC startC
  rw [if_neg q1, if_neg q2, if_neg q3, if_neg q4, if_pos ht, if_neg q5]
 rw [hw]
 unfold gantletref13_Wrong.f
 rw [gantletref13_Wrong.l0, if_pos zz3, if_pos zz3, Int.toNat_zero, BDat.can_eq tag n _ zz3 k zz3, show bytesOf (s.extract 0 0) = (bytesOf s).take 0 from bytesOf_front s 0]
 simp only [Option.bind_some]
 have hi : ∀ inst : Decidable (BDat.CanP tag n ((bytesOf s).take 0)), @decide _ inst = false := fun inst => @decide_eq_false _ inst hc
 rw [hi, if_neg zz13]
section
variable (tag n : Int) (s : ByteArray) (w : World)
abbrev CT : Prop := Calls Try.prog 19 #[.int .i64 tag, .int .i64 n, .string s] w fun e w' => e = .returned (.int .i64 (wrC tag n (bytesOf s))) ∧ Upd None0 w w'
set_option maxHeartbeats 4000000 in
set_option maxRecDepth 100000 in
theorem content_num (ht : tag = 1 ∨ tag = 2 ∨ tag = 5 ∨ tag = 10) (h0 : 0 ≤ n) (hs : (s.size : Int) ≤ n) : CT tag n s w := by
 unfold CT
 have HC := Aside0.mk (gantletref10_Wrong.calls 1 tag n s _ w (BNum.wrong_eq 0 tag n s))
 rw [wr_num ht h0 (bytesOf s) (by rw [bytesOf_length]; exact hs)] at HC
 obtain ⟨r, hr⟩ : ∃ r, wrC tag n (bytesOf s) = r := ⟨_, rfl⟩
 rw [hr] at HC ⊢
 clear hr h0 hs
 rcases ht with rfl | rfl | rfl | rfl
 all_goals
  go_enter Try.func19, Try.ntmps19
  go_wp2_with (first
   | (go_at_call 29
      (with_reducible refine HC.out.mono ?_)
      rintro e w1 ⟨rfl, hu⟩
      replace hu := of_drawn0 hu))
  go_ret
  exact ⟨rfl, hu⟩
set_option maxHeartbeats 4000000 in
set_option maxRecDepth 100000 in
theorem content_oid (h0 : 0 ≤ n) (h1 : n ≤ 2305843009213693951) (hs : (s.size : Int) ≤ n) (h7 : s.size ≤ 60000) : CT 6 n s w := by
 unfold CT
 have HC := Aside0.mk (gantletref11_Wrong.calls 200000 n s _ w (wr_oid h1 s hs h7 200000 zz13))
 obtain ⟨r, hr⟩ : ∃ r, wrC 6 n (bytesOf s) = r := ⟨_, rfl⟩
 rw [hr] at HC ⊢
 clear hr h0 hs h1 h7
 go_enter Try.func19, Try.ntmps19
 go_wp2_with (first
  | (go_at_call 30
     (with_reducible refine HC.out.mono ?_)
     rintro e w1 ⟨rfl, hu⟩
     replace hu := of_drawn0 hu))
 go_ret
 exact ⟨rfl, hu⟩
set_option maxHeartbeats 4000000 in
set_option maxRecDepth 100000 in
theorem content_bit (h0 : 0 ≤ n) (h1 : n ≤ 2305843009213693951) (hs : (s.size : Int) ≤ n) (h7 : s.size ≤ 60000) : CT 3 n s w := by
 unfold CT
 have HC := Aside0.mk (gantletref12_Wrong.calls 50 n s _ w (wr_bit h1 s hs h7 50 zz13))
 obtain ⟨r, hr⟩ : ∃ r, wrC 3 n (bytesOf s) = r := ⟨_, rfl⟩
 rw [hr] at HC ⊢
 clear hr h0 hs h1 h7
 go_enter Try.func19, Try.ntmps19
 go_wp2_with (first
  | (go_at_call 31
     (with_reducible refine HC.out.mono ?_)
     rintro e w1 ⟨rfl, hu⟩
     replace hu := of_drawn0 hu))
 go_ret
 exact ⟨rfl, hu⟩
set_option maxHeartbeats 4000000 in
set_option maxRecDepth 100000 in
theorem content_whn (ht : tag = 23 ∨ tag = 24) (h0 : 0 ≤ n) (hs : (s.size : Int) ≤ n) (h7 : s.size ≤ 60000) : CT tag n s w := by
 unfold CT
 have HC := Aside0.mk (gantletref13_Wrong.calls 500 tag n s _ w (wr_whn2 ht s h0 hs h7 500 zz13))
 obtain ⟨r, hr⟩ : ∃ r, wrC tag n (bytesOf s) = r := ⟨_, rfl⟩
 rw [hr] at HC ⊢
 clear hr h0 hs h7
 rcases ht with rfl | rfl
 all_goals
  go_enter Try.func19, Try.ntmps19
  go_wp2_with (first
   | (go_at_call 32
      (with_reducible refine HC.out.mono ?_)
      rintro e w1 ⟨rfl, hb⟩
      have hu : Upd None0 w w1 := Upd.of_below hb))
  go_ret
  exact ⟨rfl, hu⟩
set_option maxHeartbeats 4000000 in
set_option maxRecDepth 100000 in
theorem content_txt (h0 : ¬ (tag = 0 ∨ tag = 16 ∨ tag = 17)) (h1 : ¬ (tag = 1 ∨ tag = 2 ∨ tag = 5 ∨ tag = 10)) (h6 : tag ≠ 6) (h3 : tag ≠ 3) (hw : ¬ (tag = 23 ∨ tag = 24)) (hn : 0 ≤ n) (hs : (s.size : Int) ≤ n) (h7 : s.size ≤ 60000) : CT tag n s w := by
 unfold CT
 have HC := Aside0.mk (gantletref14_Wrong.calls 200000 tag n s _ w (wr_txt h0 h1 h6 h3 hw hn s hs h7 200000 zz13))
 obtain ⟨r, hr⟩ : ∃ r, wrC tag n (bytesOf s) = r := ⟨_, rfl⟩
 rw [hr] at HC ⊢
 have f1 : (tag == 1) = false := beq_eq_false_iff_ne.2 zz3
 have f2 : (tag == 2) = false := beq_eq_false_iff_ne.2 zz3
 have f3 : (tag == 5) = false := beq_eq_false_iff_ne.2 zz3
 have f4 : (tag == 10) = false := beq_eq_false_iff_ne.2 zz3
 have f5 : (tag == 6) = false := beq_eq_false_iff_ne.2 zz3
 have f6 : (tag == 3) = false := beq_eq_false_iff_ne.2 zz3
 have f7 : (tag == 23) = false := beq_eq_false_iff_ne.2 zz3
 have f8 : (tag == 24) = false := beq_eq_false_iff_ne.2 zz3
 clear hr h0 hs h1 h7 h6 h3 hw hn
 go_enter Try.func19, Try.ntmps19
 go_wp2_with (first
  | (go_at_call 33
     (with_reducible refine HC.out.mono ?_)
     rintro e w1 ⟨rfl, hb⟩
     have hu : Upd None0 w w1 := Upd.of_below hb))
 go_ret
 exact ⟨rfl, hu⟩
theorem content_any (h0 : ¬ (tag = 0 ∨ tag = 16 ∨ tag = 17)) (hn : 0 ≤ n) (h1 : n ≤ 2305843009213693951) (hs : (s.size : Int) ≤ n) (h7 : s.size ≤ 60000) : CT tag n s w := by
 by_cases g1 : tag = 1 ∨ tag = 2 ∨ tag = 5 ∨ tag = 10
 ·
  exact content_num tag n s w g1 hn hs
 by_cases g6 : tag = 6
 ·
  subst g6; exact content_oid n s w hn h1 hs h7
 by_cases g3 : tag = 3
 ·
  subst g3; exact content_bit n s w hn h1 hs h7
 by_cases gw : tag = 23 ∨ tag = 24
 ·
  exact content_whn tag n s w gw hn hs h7
 ·
  exact content_txt tag n s w h0 g1 g6 g3 gw hn hs h7
end
end Go.Proofs.Ytpfconocipmcjaa.Vp
namespace Go.Proofs.Ytpfconocipmcjaa.Vp
open RowKit PC YtpfconocipmcjaaW.PrintWords YtpfconocipmcjaaW.PrintLast YtpfconocipmcjaaW.PrintMore Own Sl
open Bs
set_option linter.unusedVariables false
set_option linter.unusedSimpArgs false
theorem infoB : (Try.prog.info? 5).map (fun i => (i.zero, i.size, i.bytes)) = some (some (.int .u8 0), 1, 1) := by kernel_rfl
theorem convB {w0 w : World} {S : Nat → Prop} {l : List Ast} {A : Option Addr} {c : Nat} {xs : List Int} (h : Sp w0 S l w) (i : Nat) (hi : l[i]? = some (row (Kd.int .u8) 5 (.slice A xs.length c) xs) := by rfl) : (convert 52 9 (.slice A xs.length c)).run Try.prog w = .ok (.string (strOfNums xs)) w :=
 own_string (P := Try.prog) Try.underlying52 Try.underlying5 Try.underlying9 (Kd.own_of_R (h.row i hi))
theorem takeB_le : ∀ (l : List Ev) (r : Int), WfL r l → 0 ≤ r → ((takeB l).length : Int) ≤ r ∧ (takeB l).length ≤ l.length ∧ Idm.Bytes (takeB l)
 | [], r, h, h0 => ⟨h0, Nat.le_refl _, fun x hx => by cases hx⟩
 | e :: l, r, h, h0 => by
   obtain ⟨ho, hl⟩ := h
   by_cases h3 : e.f0 = 3
   ·
    have hn : nextR r e = r - 1 := by unfold nextR; rw [if_pos h3]
    rw [hn] at hl
    have hr := ho.2.1 h3
    have ih := takeB_le l (r - 1) hl zz3
    rw [takeB, if_pos h3]
    simp only [List.length_cons]
    refine ⟨zz3, zz3, fun x hx => ?_⟩
    rcases List.mem_cons.1 hx with rfl | hx
    ·
     exact ho.1
    ·
     exact ih.2.2 x hx
   ·
    rw [takeB, if_neg h3]
    exact ⟨h0, Nat.zero_le _, fun x hx => by cases hx⟩
theorem wf_drop : ∀ (l : List Ev) (i : Nat) (r : Int), WfL r l → ∃ r', WfL r' (l.drop i)
 | [], i, r, h => ⟨0, by rw [List.drop_nil]; trivial⟩
 | e :: l, 0, r, h => ⟨r, h⟩
 | e :: l, i + 1, r, h => wf_drop l i _ h.2
theorem ev_at {l : List Ev} {r : Int} (h : WfL r l) {i : Nat} {e : Ev} (he : l[i]? = some e) : l.drop i = e :: l.drop (i + 1) ∧ ∃ r', okR r' e ∧ WfL (nextR r' e) (l.drop (i + 1)) := by
 obtain ⟨hi, he2⟩ := List.getElem?_eq_some_iff.1 he
 have hd : l.drop i = e :: l.drop (i + 1) := by rw [List.drop_eq_getElem_cons hi, he2]
 obtain ⟨r', hw⟩ := wf_drop l i r h
 rw [hd] at hw
 exact ⟨hd, r', hw.1, hw.2⟩
def upTo (l : List Ev) (i j : Nat) (xs : List Int) : Prop := i < j ∧ j ≤ l.length ∧ takeB (l.drop (i + 1)) = xs ++ takeB (l.drop j) ∧ xs.length = j - (i + 1)
theorem upTo_step {l : List Ev} {i j : Nat} {xs : List Int} (h : upTo l i j xs) {e : Ev} (he : l[j]? = some e) (h3 : e.f0 = 3) : upTo l i (j + 1) (xs ++ [e.f3]) := by
 obtain ⟨h1, h2, h4, h5⟩ := h
 obtain ⟨hi, he2⟩ := List.getElem?_eq_some_iff.1 he
 have hd : l.drop j = e :: l.drop (j + 1) := by rw [List.drop_eq_getElem_cons hi, he2]
 refine ⟨zz3, zz3, ?_, by rw [List.length_append, List.length_singleton]; omega⟩
 rw [h4, hd, takeB, if_pos h3, List.append_assoc]
 rfl
theorem upTo_end {l : List Ev} {i j : Nat} {xs : List Int} (h : upTo l i j xs) (he : ∀ e, l[j]? = some e → e.f0 ≠ 3) : takeB (l.drop (i + 1)) = xs := by
 obtain ⟨h1, h2, h4, h5⟩ := h
 rw [h4]
 cases hc : l[j]? with
 | none => rw [List.drop_eq_nil_of_le (List.getElem?_eq_none_iff.1 hc)]; simp [takeB]
 | some e =>
   obtain ⟨hi, he2⟩ := List.getElem?_eq_some_iff.1 hc
   rw [List.drop_eq_getElem_cons hi, he2, takeB, if_neg (he e hc), List.append_nil]
end Go.Proofs.Ytpfconocipmcjaa.Vp
namespace Go.Proofs.Ytpfconocipmcjaa.Vp
open RowKit PC YtpfconocipmcjaaW.PrintWords YtpfconocipmcjaaW.PrintLast YtpfconocipmcjaaW.PrintMore Own Sl
open Bs
set_option linter.unusedVariables false
set_option linter.unusedSimpArgs false
theorem fv_nil {i : Int} {l : List Ev} {F : Int} (h : fv i l = F) (hl : l = []) : F = -1 := by rw [hl] at h; exact h.symm
theorem fv_cl {i : Int} {e : Ev} {l : List Ev} {F : Int} (h : fv i (e :: l) = F) (hc : e.f2.f0 ≠ 0) : fv (i + 1) l = F := by rw [fv, if_pos hc] at h; exact h
theorem fv_cons {i : Int} {e : Ev} {l : List Ev} {F : Int} (h : fv i (e :: l) = F) (hc : e.f2.f0 = 0) (h1 : e.f0 = 1) (ha : e.f2.f1 ≠ 16) (hb : e.f2.f1 ≠ 17) : F = i := by
  rw [fv, if_neg (fun h => h hc), if_pos ⟨h1, ha, hb⟩] at h; exact h.symm
theorem fv_set {i : Int} {e : Ev} {l : List Ev} {F : Int} (h : fv i (e :: l) = F) (hc : e.f2.f0 = 0) (h1 : e.f0 = 1) (ha : e.f2.f1 = 16 ∨ e.f2.f1 = 17) : fv (i + 1) l = F := by
  rw [fv, if_neg (fun h => h hc), if_neg (fun h => by omega), if_pos zz3] at h; exact h
theorem fv_else {i : Int} {e : Ev} {l : List Ev} {F : Int} (h : fv i (e :: l) = F) (hc : e.f2.f0 = 0) (h1 : e.f0 ≠ 1) (h2 : e.f0 ≠ 2) : fv (i + 1) l = F := by
  rw [fv, if_neg (fun h => h hc), if_neg (fun h => h1 h.1), if_pos h2] at h; exact h
theorem fv_leaf {i : Int} {e : Ev} {l : List Ev} {F : Int} (h : fv i (e :: l) = F) (hc : e.f2.f0 = 0) (h2 : e.f0 = 2) (ht : e.f2.f1 = 0 ∨ e.f2.f1 = 16 ∨ e.f2.f1 = 17) : F = i := by
  rw [fv, if_neg (fun h => h hc), if_neg (fun h => by omega), if_neg (fun h => h h2), if_pos ht] at h; exact h.symm
theorem fv_con {i : Int} {e : Ev} {l : List Ev} {F : Int} (h : fv i (e :: l) = F) (hc : e.f2.f0 = 0) (h2 : e.f0 = 2) (ht : ¬ (e.f2.f1 = 0 ∨ e.f2.f1 = 16 ∨ e.f2.f1 = 17)) :
    (0 ≤ wrC e.f2.f1 e.f2.f3 (takeB l) → F = i + wrC e.f2.f1 e.f2.f3 (takeB l)) ∧ (¬ 0 ≤ wrC e.f2.f1 e.f2.f3 (takeB l) → fv (i + 1) l = F) := by
  rw [fv, if_neg (fun h => h hc), if_neg (fun h => by omega), if_neg (fun h => h h2), if_neg ht] at h
  exact ⟨fun h0 => by rw [if_pos h0] at h; exact h.symm, fun h0 => by rw [if_neg h0] at h; exact h⟩
theorem wrRun_le : ∀ (l : List Int) (s : Cs) (i : Int), wrRun s l i ≤ i + l.length ∨ wrRun s l i = -1
  | [], s, i => .inr rfl
  | b :: r, s, i => by
    unfold wrRun
    cases pushC s b with
    | none => exact .inl zz60
    | some s' => rcases wrRun_le r s' (i + 1) with h | h
                 · exact .inl (by simp only [List.length_cons]; omega)
                 · exact .inr h
theorem wrC_le (t n : Int) (l : List Int) : -1 ≤ wrC t n l ∧ wrC t n l ≤ 1 + l.length := by
  unfold wrC
  cases startC t n with
  | none => exact ⟨zz29, zz60⟩
  | some s =>
    simp only
    have h1 := wrRun_le l s 1
    have h2 := wrRun_pos l s 1 zz13
    omega
set_option maxHeartbeats 4000000 in
set_option maxRecDepth 100000 in
theorem first_any (A : Option Addr) (c : Nat) (l : List Ev) (w : World) (hC : Kd.C k39 w A l.length l) (hwf : WfL 0 l) (hl : l.length ≤ 50000) :
    Calls Try.prog 13 #[.slice A l.length c] w fun e w' => e = .returned (.int .i64 (fv 0 l)) ∧ Upd None0 w w' := by
  obtain ⟨F, hF⟩ : ∃ F, fv 0 l = F := ⟨_, rfl⟩
  rw [hF]
  obtain ⟨n, hln⟩ : ∃ n, l.length = n := ⟨_, rfl⟩
  have HLN := Aside0.mk hln
  rw [hln] at hC ⊢
  have hS := Sp.nil (w := w) (S := None0)
  have HC := Aside0.mk hC
  have HL := Aside0.mk (show n ≤ 50000 by omega)
  have HWF := Aside0.mk hwf
  have HF := Aside0.mk hF
  clear hF hln hC hwf hl
  go_enter Try.func13, Try.ntmps13
  go_wp2
  go_loopg [3] n (fun gk v3 wr => ∃ i : Nat, v3 = .int .i64 (i : Int) ∧ Aside0 (i ≤ n ∧ n - i ≤ gk ∧ fv (i : Int) (l.drop i) = F) ∧ Aside0 (Sp w None0 [] wr))
  case atStart => exact ⟨0, rfl, ⟨Nat.zero_le _, zz3, HF.out⟩, ⟨by exact hS⟩⟩
  case round =>
    clear hS
    obtain ⟨go, hgo⟩ : ∃ g, g = gk := ⟨_, rfl⟩
    subst hgo
    obtain ⟨i, rfl, HI, HS⟩ := hrel
    have hS := HS.out
    clear HS
    have hi0 : (0 : Int) ≤ (i : Int) := by omega
    have hi1 : (i : Int) ≤ 50000 := by have := HI.out; have := HL.out; omega
    have hw1 : IntKind.i64.wrap ((i : Int) + 1) = ((i + 1 : Nat) : Int) := by rw [IntKind.wrap_i64]; omega
    by_cases hlt : i < n
    case neg =>
      have hd : decide (i < n) = false := decide_eq_false hlt
      have hf : F = -1 := fv_nil HI.out.2.2 (List.drop_eq_nil_of_le (by have := HLN.out; omega))
      subst hf
      clear hlt
      go_wp2
      skip
      go_ret
      exact ⟨rfl, hS.lt.u⟩
    have hd : decide (i < n) = true := decide_eq_true hlt
    have hin : (i : Int) < (n : Int) := by omega
    have hli : i < l.length := by rw [HLN.out]; exact hlt
    obtain ⟨ad, rfl, h0, h1, h2, h3, h4, h5, h6⟩ := at_T39 HC.out (i : Int) hi0 zz3
    have hK0 := h0
    rw [Int.toNat_natCast] at hK0
    replace h0 := up_cell hS.u h0
    replace h2 := up_cell hS.u h2
    replace h3 := up_cell hS.u h3
    replace h4 := up_cell hS.u h4
    replace h5 := up_cell hS.u h5
    rw [Int.toNat_natCast] at h0 h2 h3 h4 h5
    obtain ⟨e, he⟩ : ∃ e, rd_T39 l (i : Int) = e := ⟨_, rfl⟩
    have hle : l[i]? = some e := by rw [← he, rd_drop l i hli]; exact List.getElem?_eq_getElem hli
    rw [he] at hK0 h0 h2 h3 h4 h5
    obtain ⟨hdr, r', ho, hwr⟩ := ev_at HWF.out hle
    have HFV := Aside0.mk (show fv (i : Int) (e :: l.drop (i + 1)) = F by rw [← hdr]; exact HI.out.2.2)
    have HO := Aside0.mk ho
    have HWR := Aside0.mk hwr
    have HLT := Aside0.mk hlt
    clear h1 h6 he hdr ho hwr hlt hle hli
    obtain ⟨⟨kd, at_, ⟨cl, tag, cons, ln⟩, b⟩, hq⟩ : ∃ q, e = q := ⟨_, rfl⟩
    rw [hq] at HFV HO HWR hK0 h0 h2 h3 h4 h5
    clear hq
    simp only at hK0 h0 h2 h3 h4 h5
    have HK0 := Aside0.mk hK0
    clear hK0
    have hgo : fv ((i : Int) + 1) (l.drop (i + 1)) = F → (i + 1 ≤ n ∧ n - (i + 1) ≤ go - 1 ∧ fv (((i + 1 : Nat) : Int)) (l.drop (i + 1)) = F) := fun h => ⟨by have := HLT.out; omega, by have := HI.out; have := HLT.out; omega, by rw [← h]; congr 1⟩
    have HGO := Aside0.mk hgo
    clear hgo
    by_cases hcl : cl = 0
    case neg =>
      have b1 : (cl != 0) = true := bne_iff_ne.2 hcl
      have HN := Aside0.mk (HGO.out (fv_cl HFV.out hcl))
      clear hcl
      go_wp2_with (first
        | ((with_reducible refine gate_dst (N := 4) rfl ?_)
           refine sp_box hS rfl (N := 4) rfl #[.int .i64 0, .int .i64 0, .bool false, .int .i64 0] 37 zz10 ?_
           intro gx w3 hg3 hS)
        | ((with_reducible refine gate_store (t := 37) (p := 4) (v := .tmp 18) rfl ?_)
           refine sp_row hS 0 rfl 37 (.tmp 4) (.tmp 18) rfl rfl gx #[.int .i64 cl, .int .i64 tag, .bool cons, .int .i64 ln] rfl rfl 37 _ rfl zz8 rfl zz17 rfl ?_
           intro w4 hS
           obtain ⟨k0, k1, k2, k3⟩ := hS.cells4 0))
      go_roundg (go - 1)
      case measure => have := HI.out; have := HLT.out; omega
      case rel => exact ⟨i + 1, zz29, ⟨HN.out⟩, ⟨Sp.sel (l2 := []) hS.lt []⟩⟩
    subst hcl
    by_cases hk1 : kd = 1
    · subst hk1
      by_cases t16 : tag = 16
      · subst t16
        have HN := Aside0.mk (HGO.out (fv_set HFV.out rfl rfl (.inl rfl)))
        go_wp2_with (first
          | ((with_reducible refine gate_dst (N := 4) rfl ?_)
             refine sp_box hS rfl (N := 4) rfl #[.int .i64 0, .int .i64 0, .bool false, .int .i64 0] 37 zz10 ?_
             intro gx w3 hg3 hS)
          | ((with_reducible refine gate_store (t := 37) (p := 4) (v := .tmp 18) rfl ?_)
             refine sp_row hS 0 rfl 37 (.tmp 4) (.tmp 18) rfl rfl gx #[.int .i64 0, .int .i64 16, .bool cons, .int .i64 ln] rfl rfl 37 _ rfl zz8 rfl zz17 rfl ?_
             intro w4 hS
             clear h0
             have h0 := up_cell hS.u HK0.out
             obtain ⟨k0, k1, k2, k3⟩ := hS.cells4 0))
        go_roundg (go - 1)
        case measure => have := HI.out; have := HLT.out; omega
        case rel => exact ⟨i + 1, zz29, ⟨HN.out⟩, ⟨Sp.sel (l2 := []) hS.lt []⟩⟩
      by_cases t17 : tag = 17
      · subst t17
        have HN := Aside0.mk (HGO.out (fv_set HFV.out rfl rfl (.inr rfl)))
        go_wp2_with (first
          | ((with_reducible refine gate_dst (N := 4) rfl ?_)
             refine sp_box hS rfl (N := 4) rfl #[.int .i64 0, .int .i64 0, .bool false, .int .i64 0] 37 zz10 ?_
             intro gx w3 hg3 hS)
          | ((with_reducible refine gate_store (t := 37) (p := 4) (v := .tmp 18) rfl ?_)
             refine sp_row hS 0 rfl 37 (.tmp 4) (.tmp 18) rfl rfl gx #[.int .i64 0, .int .i64 17, .bool cons, .int .i64 ln] rfl rfl 37 _ rfl zz8 rfl zz17 rfl ?_
             intro w4 hS
             clear h0
             have h0 := up_cell hS.u HK0.out
             obtain ⟨k0, k1, k2, k3⟩ := hS.cells4 0))
        go_roundg (go - 1)
        case measure => have := HI.out; have := HLT.out; omega
        case rel => exact ⟨i + 1, zz29, ⟨HN.out⟩, ⟨Sp.sel (l2 := []) hS.lt []⟩⟩
      have b1 : (tag != 16) = true := bne_iff_ne.2 t16
      have b2 : (tag != 17) = true := bne_iff_ne.2 t17
      obtain rfl : F = (i : Int) := fv_cons HFV.out rfl rfl t16 t17
      clear t16 t17
      go_wp2_with (first
        | ((with_reducible refine gate_dst (N := 4) rfl ?_)
           refine sp_box hS rfl (N := 4) rfl #[.int .i64 0, .int .i64 0, .bool false, .int .i64 0] 37 zz10 ?_
           intro gx w3 hg3 hS)
        | ((with_reducible refine gate_store (t := 37) (p := 4) (v := .tmp 18) rfl ?_)
           refine sp_row hS 0 rfl 37 (.tmp 4) (.tmp 18) rfl rfl gx #[.int .i64 0, .int .i64 tag, .bool cons, .int .i64 ln] rfl rfl 37 _ rfl zz8 rfl zz17 rfl ?_
           intro w4 hS
           clear h0
           have h0 := up_cell hS.u HK0.out
           obtain ⟨k0, k1, k2, k3⟩ := hS.cells4 0))
      go_ret
      exact ⟨rfl, Upd.trans (S := None0) (T := None0) (Upd.refl _ _) (Sp.u zz52) (fun _ h => False.elim h)⟩
    by_cases hk2 : kd = 2
    case neg =>
      have b1 : (kd == 1) = false := beq_eq_false_iff_ne.2 hk1
      have b2 : (kd != 2) = true := bne_iff_ne.2 hk2
      have HN := Aside0.mk (HGO.out (fv_else HFV.out rfl hk1 hk2))
      clear hk1 hk2
      go_wp2_with (first
        | ((with_reducible refine gate_dst (N := 4) rfl ?_)
           refine sp_box hS rfl (N := 4) rfl #[.int .i64 0, .int .i64 0, .bool false, .int .i64 0] 37 zz10 ?_
           intro gx w3 hg3 hS)
        | ((with_reducible refine gate_store (t := 37) (p := 4) (v := .tmp 18) rfl ?_)
           refine sp_row hS 0 rfl 37 (.tmp 4) (.tmp 18) rfl rfl gx #[.int .i64 0, .int .i64 tag, .bool cons, .int .i64 ln] rfl rfl 37 _ rfl zz8 rfl zz17 rfl ?_
           intro w4 hS
           clear h0
           have h0 := up_cell hS.u HK0.out
           obtain ⟨k0, k1, k2, k3⟩ := hS.cells4 0))
      go_roundg (go - 1)
      case measure => have := HI.out; have := HLT.out; omega
      case rel => exact ⟨i + 1, zz29, ⟨HN.out⟩, ⟨Sp.sel (l2 := []) hS.lt []⟩⟩
    subst hk2
    clear hk1
    by_cases t0 : tag = 0
    · subst t0
      obtain rfl : F = (i : Int) := fv_leaf HFV.out rfl rfl (.inl rfl)
      go_wp2_with (first
        | ((with_reducible refine gate_dst (N := 4) rfl ?_)
           refine sp_box hS rfl (N := 4) rfl #[.int .i64 0, .int .i64 0, .bool false, .int .i64 0] 37 zz10 ?_
           intro gx w3 hg3 hS)
        | ((with_reducible refine gate_store (t := 37) (p := 4) (v := .tmp 18) rfl ?_)
           refine sp_row hS 0 rfl 37 (.tmp 4) (.tmp 18) rfl rfl gx #[.int .i64 0, .int .i64 0, .bool cons, .int .i64 ln] rfl rfl 37 _ rfl zz8 rfl zz17 rfl ?_
           intro w4 hS
           clear h0
           have h0 := up_cell hS.u HK0.out
           obtain ⟨k0, k1, k2, k3⟩ := hS.cells4 0))
      go_ret
      exact ⟨rfl, Upd.trans (S := None0) (T := None0) (Upd.refl _ _) (Sp.u zz52) (fun _ h => False.elim h)⟩
    by_cases t16 : tag = 16
    · subst t16
      obtain rfl : F = (i : Int) := fv_leaf HFV.out rfl rfl (.inr (.inl rfl))
      go_wp2_with (first
        | ((with_reducible refine gate_dst (N := 4) rfl ?_)
           refine sp_box hS rfl (N := 4) rfl #[.int .i64 0, .int .i64 0, .bool false, .int .i64 0] 37 zz10 ?_
           intro gx w3 hg3 hS)
        | ((with_reducible refine gate_store (t := 37) (p := 4) (v := .tmp 18) rfl ?_)
           refine sp_row hS 0 rfl 37 (.tmp 4) (.tmp 18) rfl rfl gx #[.int .i64 0, .int .i64 16, .bool cons, .int .i64 ln] rfl rfl 37 _ rfl zz8 rfl zz17 rfl ?_
           intro w4 hS
           clear h0
           have h0 := up_cell hS.u HK0.out
           obtain ⟨k0, k1, k2, k3⟩ := hS.cells4 0))
      go_ret
      exact ⟨rfl, Upd.trans (S := None0) (T := None0) (Upd.refl _ _) (Sp.u zz52) (fun _ h => False.elim h)⟩
    by_cases t17 : tag = 17
    · subst t17
      obtain rfl : F = (i : Int) := fv_leaf HFV.out rfl rfl (.inr (.inr rfl))
      go_wp2_with (first
        | ((with_reducible refine gate_dst (N := 4) rfl ?_)
           refine sp_box hS rfl (N := 4) rfl #[.int .i64 0, .int .i64 0, .bool false, .int .i64 0] 37 zz10 ?_
           intro gx w3 hg3 hS)
        | ((with_reducible refine gate_store (t := 37) (p := 4) (v := .tmp 18) rfl ?_)
           refine sp_row hS 0 rfl 37 (.tmp 4) (.tmp 18) rfl rfl gx #[.int .i64 0, .int .i64 17, .bool cons, .int .i64 ln] rfl rfl 37 _ rfl zz8 rfl zz17 rfl ?_
           intro w4 hS
           clear h0
           have h0 := up_cell hS.u HK0.out
           obtain ⟨k0, k1, k2, k3⟩ := hS.cells4 0))
      go_ret
      exact ⟨rfl, Upd.trans (S := None0) (T := None0) (Upd.refl _ _) (Sp.u zz52) (fun _ h => False.elim h)⟩
    have b1 : (tag == 0) = false := beq_eq_false_iff_ne.2 t0
    have b2 : (tag == 16) = false := beq_eq_false_iff_ne.2 t16
    have b3 : (tag == 17) = false := beq_eq_false_iff_ne.2 t17
    have ht : ¬ (tag = 0 ∨ tag = 16 ∨ tag = 17) := by omega
    have hln0 := HO.out.2.2.2 rfl
    have hwr2 : WfL ln (l.drop (i + 1)) := HWR.out
    obtain ⟨q1, q2, q3⟩ := takeB_le _ _ hwr2 hln0.1
    obtain ⟨f1, f2⟩ := fv_con HFV.out rfl rfl ht
    simp only at hln0 f1 f2
    obtain ⟨came, hcame⟩ : ∃ x, takeB (l.drop (i + 1)) = x := ⟨_, rfl⟩
    rw [hcame] at q1 q2 q3 f1 f2
    have hsz : (strOfNums came).size = came.length := by rw [← bytesOf_length, bytesOf_nums _ q3]
    have hcl2 : came.length ≤ 50000 := by rw [List.length_drop] at q2; have := HLN.out; have := HL.out; omega
    have HCT := Aside0.mk (fun W => content_any tag ln (strOfNums came) W ht hln0.1 hln0.2 (by rw [hsz]; exact q1) (by rw [hsz]; omega))
    simp only [CT] at HCT
    rw [bytesOf_nums _ q3] at HCT
    have hr := wrC_le tag ln came
    obtain ⟨rr, hrr⟩ : ∃ r, wrC tag ln came = r := ⟨_, rfl⟩
    rw [hrr] at HCT f1 f2 hr
    have HF1 := Aside0.mk f1
    have HF2 := Aside0.mk f2
    have HCM := Aside0.mk hcame
    have HRR := Aside0.mk hr
    have HCL := Aside0.mk hcl2
    have HLN0 := Aside0.mk hln0
    have hw2 : IntKind.i64.wrap ((i : Int) + 1) = (i : Int) + 1 := by rw [IntKind.wrap_i64]; omega
    clear t0 t16 t17 ht hln0 hwr2 q1 q2 q3 f1 f2 hcame hsz hcl2 hr hrr hw1
    go_wp2_with (first
      | ((with_reducible refine gate_dst (N := 4) rfl ?_)
         refine sp_box hS rfl (N := 4) rfl #[.int .i64 0, .int .i64 0, .bool false, .int .i64 0] 37 zz10 ?_
         intro gx w3 hg3 hS)
      | ((with_reducible refine gate_store (t := 37) (p := 4) (v := .tmp 18) rfl ?_)
         refine sp_row hS 0 rfl 37 (.tmp 4) (.tmp 18) rfl rfl gx #[.int .i64 0, .int .i64 tag, .bool cons, .int .i64 ln] rfl rfl 37 _ rfl zz8 rfl zz17 rfl ?_
         intro w4 hS
         clear h0
         have h0 := up_cell hS.u HK0.out
         obtain ⟨k0, k1, k2, k3⟩ := hS.cells4 0)
      | ((with_reducible refine gate_dst (N := 59) rfl ?_)
         refine sp_lit (Kd.int .u8) hS 5 rfl (N := 59) rfl ([] : List Int) [] zz10 ⟨rfl, fun j p hj => by simp at hj⟩ zz13 ?_
         intro A2 c2 w5 hS
         obtain ⟨k0, k1, k2, k3⟩ := hS.cells4 1))
    go_loopg [5, 6] n (fun gk v5 v6 wr => ∃ (j : Nat) (A2 : Option Addr) (c2 : Nat) (xs : List Int), v5 = .slice A2 xs.length c2 ∧ v6 = .int .i64 (j : Int) ∧ Aside0 (upTo l i j xs ∧ n - j ≤ gk ∧ xs.length ≤ 50000) ∧ Aside0 (Sp w None0 [row (Kd.int .u8) 5 (.slice A2 xs.length c2) xs, blk gx #[.int .i64 0, .int .i64 tag, .bool cons, .int .i64 ln] 37] wr))
    case atStart => exact ⟨i + 1, A2, c2, [], rfl, zz29, ⟨⟨zz3, by have := HLT.out; have := HLN.out; omega, rfl, zz29⟩, zz3, zz29⟩, ⟨by exact hS⟩⟩
    case round =>
      clear hS k0 k1 k2 k3 b1 b2 b3
      obtain ⟨j, A2, c2, xs, rfl, rfl, HJ, HS⟩ := hrel
      have hS := HS.out
      clear HS
      obtain ⟨k0, k1, k2, k3⟩ := hS.cells4 1
      have hj0 : (0 : Int) ≤ (j : Int) := by omega
      have hj1 : (j : Int) ≤ 50000 := by have := HJ.out.1.2.1; have := HL.out; have := HLN.out; omega
      have hw2 : IntKind.i64.wrap ((j : Int) + 1) = ((j + 1 : Nat) : Int) := by rw [IntKind.wrap_i64]; omega
      by_cases hlj : j < n
      case neg =>
        have hd : decide (j < n) = false := decide_eq_false hlj
        obtain rfl : came = xs := HCM.out.symm.trans (upTo_end HJ.out.1 (fun e he => by rw [List.getElem?_eq_none_iff.2 (by have := HLN.out; omega)] at he; cases he))
        clear hlj
        have hv := convB hS 0
        by_cases h0r : 0 ≤ rr
        · have hdr : decide (0 ≤ rr) = true := decide_eq_true h0r
          have hw3 : IntKind.i64.wrap ((i : Int) + rr) = (i : Int) + rr := by have := HRR.out; have := HCL.out; rw [IntKind.wrap_i64]; omega
          obtain rfl := HF1.out h0r
          clear h0r
          go_wp2_with (first
            | (go_at_call 19
               (with_reducible refine (HCT.out _).mono ?_)
               rintro e w8 ⟨rfl, hu8⟩
               replace hS := hS.toN hu8))
          go_ret
          exact ⟨rfl, Upd.trans (S := None0) (T := None0) (Upd.refl _ _) (Sp.u zz52) (fun _ h => False.elim h)⟩
        · have hdr : decide (0 ≤ rr) = false := decide_eq_false h0r
          have HN := Aside0.mk (HGO.out (HF2.out zz3))
          clear h0r
          go_wp2_with (first
            | (go_at_call 19
               (with_reducible refine (HCT.out _).mono ?_)
               rintro e w8 ⟨rfl, hu8⟩
               replace hS := hS.toN hu8))
          go_roundg (go - 1)
          case measure => have := HI.out; have := HLT.out; omega
          case rel => exact ⟨i + 1, zz29, ⟨HN.out⟩, ⟨Sp.sel (l2 := []) hS.lt []⟩⟩
      have hd : decide (j < n) = true := decide_eq_true hlj
      have hjn : (j : Int) < (n : Int) := by omega
      have hjl : j < l.length := by rw [HLN.out]; exact hlj
      obtain ⟨ad2, had, g0, g1, g2, g3, g4, g5, g6⟩ := at_T39 HC.out (j : Int) hj0 zz3
      cases had
      replace g0 := up_cell hS.u g0
      replace g6 := up_cell hS.u g6
      rw [Int.toNat_natCast] at g0 g6
      obtain ⟨y, hy⟩ : ∃ y, rd_T39 l (j : Int) = y := ⟨_, rfl⟩
      have hly : l[j]? = some y := by rw [← hy, rd_drop l j hjl]; exact List.getElem?_eq_getElem hjl
      rw [hy] at g0 g6
      clear g1 g2 g3 g4 g5 hy
      by_cases hy3 : y.f0 = 3
      case neg =>
        have b3 : (y.f0 == 3) = false := beq_eq_false_iff_ne.2 hy3
        obtain rfl : came = xs := HCM.out.symm.trans (upTo_end HJ.out.1 (fun e he => by rw [hly] at he; cases he; exact hy3))
        clear hlj hy3 hly hjl g6
        have hv := convB hS 0
        by_cases h0r : 0 ≤ rr
        · have hdr : decide (0 ≤ rr) = true := decide_eq_true h0r
          have hw3 : IntKind.i64.wrap ((i : Int) + rr) = (i : Int) + rr := by have := HRR.out; have := HCL.out; rw [IntKind.wrap_i64]; omega
          obtain rfl := HF1.out h0r
          clear h0r
          go_wp2_with (first
            | (go_at_call 19
               (with_reducible refine (HCT.out _).mono ?_)
               rintro e w8 ⟨rfl, hu8⟩
               replace hS := hS.toN hu8))
          go_ret
          exact ⟨rfl, Upd.trans (S := None0) (T := None0) (Upd.refl _ _) (Sp.u zz52) (fun _ h => False.elim h)⟩
        · have hdr : decide (0 ≤ rr) = false := decide_eq_false h0r
          have HN := Aside0.mk (HGO.out (HF2.out zz3))
          clear h0r
          go_wp2_with (first
            | (go_at_call 19
               (with_reducible refine (HCT.out _).mono ?_)
               rintro e w8 ⟨rfl, hu8⟩
               replace hS := hS.toN hu8))
          go_roundg (go - 1)
          case measure => have := HI.out; have := HLT.out; omega
          case rel => exact ⟨i + 1, zz29, ⟨HN.out⟩, ⟨Sp.sel (l2 := []) hS.lt []⟩⟩
      rw [hy3] at g0
      have HUP := Aside0.mk (upTo_step HJ.out.1 hly hy3)
      have HLJ := Aside0.mk hlj
      obtain ⟨b2, hb2⟩ : ∃ b, y.f3 = b := ⟨_, rfl⟩
      rw [hb2] at g6 HUP
      obtain ⟨ys, hys⟩ : ∃ ys, xs ++ [b2] = ys := ⟨_, rfl⟩
      have HY := Aside0.mk hys
      have HYL := Aside0.mk (show ys.length ≤ 50000 by have := HUP.out.2.2.2; have := HUP.out.2.1; rw [hys] at *; have := HL.out; have := HLN.out; omega)
      have HXL := Aside0.mk (show (xs.length + 1) * 1 ≤ 140737488355328 by have := HJ.out.2.2; omega)
      rw [hys] at HUP
      clear hlj hy3 hly hjl hys hb2
      go_wp2_with (first
        | ((with_reducible refine gate_builtin (b := .append) (xs := #[.tmp 76, .tmp 82]) rfl ?_); at_builtin
           refine sp_app (Kd.int .u8) hS 0 rfl (.tmp 76) (.tmp 82) 52 5 (.int .u8 0) 1 rfl Try.underlying52 infoB rfl zz13 zz13 (.slice A2 xs.length c2) xs b2 [.int .u8 b2] rfl rfl (by exact rfl) rfl HXL.out ys HY.out _ (fun _ _ => rfl) ?_
           intro A4 c4 w8 hS))
      go_roundg (gk - 1)
      case measure => have := HJ.out.2.1; have := HLJ.out; omega
      case rel => exact ⟨j + 1, A4, c4, ys, rfl, zz29, ⟨HUP.out, by have := HJ.out.2.1; have := HLJ.out; omega, HYL.out⟩, ⟨by exact hS.lt.sel [0, 1]⟩⟩
end Go.Proofs.Ytpfconocipmcjaa.Vp
