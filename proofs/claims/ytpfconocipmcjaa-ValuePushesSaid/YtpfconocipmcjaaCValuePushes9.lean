/- What the row of ValuePushes stands on, made small by a program of this session (pack.py). -/
import Derived.Test.YtpfconocipmcjaaCValuePushes2
import Derived.Test.YtpfconocipmcjaaCValuePushes3
import Derived.Test.YtpfconocipmcjaaCValuePushes7
import Derived.Test.YtpfconocipmcjaaCValuePushes8
namespace Go.Proofs.Ytpfconocipmcjaa.BDat
open RowKit PC YtpfconocipmcjaaW.PrintWords YtpfconocipmcjaaW.PrintLast YtpfconocipmcjaaW.PrintMore
open Bs
open Dt
set_option linter.unusedVariables false
theorem bytesOf_part (s : ByteArray) (a b : Nat) : bytesOf (s.extract a b) = ((bytesOf s).drop a).take (b - a) := by
 simp only [bytesOf, ByteArray.data_extract, Array.toList_extract, List.extract_eq_take_drop, List.map_take, List.map_drop]
theorem bt_part (s : ByteArray) (a b : Nat) (i : Nat) (h : i < b - a) : bt (s.extract a b) (i : Int) = bt s ((a + i : Nat) : Int) := by
 rw [bt_get, bt_get, bytesOf_part, Int.toNat_natCast, Int.toNat_natCast, List.getD_eq_getElem?_getD, List.getD_eq_getElem?_getD, List.getElem?_take_of_lt h, List.getElem?_drop]
theorem at_bt (s : ByteArray) (i : Nat) : Dt.at_ (bytesOf s) i = bt s (i : Int) - 48 := by
 rw [bt_get, Int.toNat_natCast]; rfl
theorem at_dig {s : ByteArray} (h : Digs (bytesOf s)) (i : Nat) (hi : i < s.size) : 0 ≤ bt s (i : Int) - 48 ∧ bt s (i : Int) - 48 ≤ 9 := by
 rw [← at_bt]; exact at_range h (by rw [bytesOf_length]; exact hi)
theorem num_step (k : Nat) (s : ByteArray) (a z i : Int) (h0 : 0 ≤ i) (h1 : i < z) (h2 : i < s.size) (hz : i < 100) (ha : 0 ≤ a ∧ a ≤ 100000) (hb : 0 ≤ bt s i - 48 ∧ bt s i - 48 ≤ 9) :
 when_number.l0 (k + 1) s a z i = when_number.l0 k s (10 * a + (bt s i - 48)) z (i + 1) := by
 rw [when_number.l0, if_pos h1, if_pos h0, if_pos h2, w64 (x := 10 * a) zz3 zz3, Int.emod_eq_of_lt zz3 zz3, w64 zz3 zz3, w64 zz3 zz3]
theorem num_end (k : Nat) (s : ByteArray) (a z i : Int) (h1 : ¬ i < z) : when_number.l0 (k + 1) s a z i = some a := by
 rw [when_number.l0, if_neg h1]
theorem num1 (k : Nat) (s : ByteArray) (h : s.size = 1) (b0 : 0 ≤ bt s 0 - 48 ∧ bt s 0 - 48 ≤ 9) : when_number.f (k + 2) s = some (bt s 0 - 48) := by
 unfold when_number.f
 rw [h, num_step (k + 1) s 0 _ 0 zz3 zz3 zz3 zz3 zz3 b0, num_end _ _ _ _ _ zz3]
 congr 1; omega
theorem num2 (k : Nat) (s : ByteArray) (h : s.size = 2) (b0 : 0 ≤ bt s 0 - 48 ∧ bt s 0 - 48 ≤ 9) (b1 : 0 ≤ bt s 1 - 48 ∧ bt s 1 - 48 ≤ 9) : when_number.f (k + 3) s = some (10 * (bt s 0 - 48) + (bt s 1 - 48)) := by
 unfold when_number.f
 rw [h, num_step (k + 2) s 0 _ 0 zz3 zz3 zz3 zz3 zz3 b0, show (0 : Int) + 1 = 1 from rfl, num_step (k + 1) s _ _ _ zz3 zz3 zz3 zz3 zz3 b1, num_end _ _ _ _ _ zz3]
 congr 1; omega
theorem num4 (k : Nat) (s : ByteArray) (h : s.size = 4) (b0 : 0 ≤ bt s 0 - 48 ∧ bt s 0 - 48 ≤ 9) (b1 : 0 ≤ bt s 1 - 48 ∧ bt s 1 - 48 ≤ 9) (b2 : 0 ≤ bt s 2 - 48 ∧ bt s 2 - 48 ≤ 9) (b3 : 0 ≤ bt s 3 - 48 ∧ bt s 3 - 48 ≤ 9) :
 when_number.f (k + 5) s = some (1000 * (bt s 0 - 48) + 100 * (bt s 1 - 48) + 10 * (bt s 2 - 48) + (bt s 3 - 48)) := by
 unfold when_number.f
 rw [h, num_step (k + 4) s 0 _ 0 zz3 zz3 zz3 zz3 zz3 b0, show (0 : Int) + 1 = 1 from rfl, num_step (k + 3) s _ _ _ zz3 zz3 zz3 zz3 zz3 b1,
  show (1 : Int) + 1 = 2 from rfl, num_step (k + 2) s _ _ _ zz3 zz3 zz3 zz3 zz3 b2, show (2 : Int) + 1 = 3 from rfl, num_step (k + 1) s _ _ _ zz3 zz3 zz3 zz3 zz3 b3, num_end _ _ _ _ _ zz3]
 congr 1; omega
theorem year_eq (k : Nat) (s : ByteArray) (h : Digs (bytesOf s)) (h4 : 4 ≤ s.size) : when_number.f (k + 5) (s.extract 0 4) = some (yr (bytesOf s)) := by
 have e := fun i (hi : i < 4) => bt_part s 0 4 i zz3
 have e0 := e 0 zz3; have e1 := e 1 zz3; have e2 := e 2 zz3; have e3 := e 3 zz3
 simp only [Nat.zero_add] at e0 e1 e2 e3
 have d0 := at_dig h 0 zz3; have d1 := at_dig h 1 zz3; have d2 := at_dig h 2 zz3; have d3 := at_dig h 3 zz3
 rw [← e0] at d0; rw [← e1] at d1; rw [← e2] at d2; rw [← e3] at d3
 rw [num4 k _ (by rw [ByteArray.size_extract]; omega) d0 d1 d2 d3]
 unfold yr
 rw [at_bt, at_bt, at_bt, at_bt, ← e0, ← e1, ← e2, ← e3]; rfl
theorem pair_eq (k : Nat) (s : ByteArray) (h : Digs (bytesOf s)) (p q : Nat) (hq : q = p + 2) (hs : q ≤ s.size) : when_number.f (k + 3) (s.extract p q) = some (Dt.two (bytesOf s) p) := by
 subst hq
 have e0 := bt_part s p (p + 2) 0 zz3; have e1 := bt_part s p (p + 2) 1 zz3
 have d0 := at_dig h p zz3; have d1 := at_dig h (p + 1) zz3
 rw [Nat.add_zero p] at e0
 rw [← e0] at d0; rw [← e1] at d1
 rw [num2 k _ (by rw [ByteArray.size_extract]; omega) d0 d1]
 unfold Dt.two
 rw [at_bt, at_bt, ← e0, ← e1]; rfl
theorem one_eq (k : Nat) (s : ByteArray) (h : Digs (bytesOf s)) (p q : Nat) (hq : q = p + 1) (hs : q ≤ s.size) : when_number.f (k + 2) (s.extract p q) = some (Dt.at_ (bytesOf s) p) := by
 subst hq
 have e0 := bt_part s p (p + 1) 0 zz3
 have d0 := at_dig h p zz3
 rw [Nat.add_zero p] at e0
 rw [← e0] at d0
 rw [num1 k _ (by rw [ByteArray.size_extract]; omega) d0, at_bt, ← e0]; rfl
theorem span_eq (k : Nat) (s : ByteArray) (h : Digs (bytesOf s)) (p : Nat) (hp : p = 6 → 6 ≤ s.size) : when_span.f (k + 5) s (p : Int) = some (span (bytesOf s) p) := by
 unfold when_span.f span
 by_cases h4 : p = 4
 ·
  rw [if_pos zz3, if_pos h4]
 rw [if_neg zz3, if_neg h4]
 by_cases h6 : p = 6
 ·
  have := hp h6
  rw [if_pos zz3, if_pos h6, if_pos zz3, if_pos zz3, year_eq k s h zz3]
  simp only [Option.bind_some]
  rw [if_pos zz3, if_pos zz3, pair_eq (k + 2) s h 4 6 rfl zz3]
  rfl
 rw [if_neg zz3, if_neg h6]
 by_cases h8 : p = 8
 ·
  rw [if_pos zz3, if_pos h8]
 ·
  rw [if_neg zz3, if_neg h8]
theorem mask_eq : ∀ n : Nat, n < 15 → 4 < n → Go.bits .andNot .i64 (wrap64 ((n : Int) - 1)) 1 = if n % 2 = 1 then ((n - 1 : Nat) : Int) else ((n - 2 : Nat) : Int) := by decide +kernel
theorem tens {x : Int} (h0 : 0 ≤ x) (h1 : x ≤ 1000) : wrap64 (Int.tdiv x 10) = x / 10 := by
 rw [Int.tdiv_eq_ediv_of_nonneg h0, w64 zz3 zz3]
theorem span_range (D : List Int) (p : Nat) : 0 ≤ (span D p).1 ∧ (span D p).1 ≤ 1 ∧ 0 ≤ (span D p).2 ∧ (span D p).2 ≤ 59 := by
 have := days_range (yr D) (Dt.two D 4)
 unfold span
 repeat' split
 all_goals (simp only; omega)
theorem and_dec (a b : Prop) [Decidable a] [Decidable b] : (if a then some (decide b) else some false) = some (decide a && decide b) := by
 by_cases h : a <;> simp [h]
theorem may_eq (k : Nat) (s : ByteArray) (h : Digs (bytesOf s)) (hs : s.size ≤ 14) : when_may.f (k + 5) s = some (may (bytesOf s)) := by
 unfold when_may.f may
 rw [bytesOf_length]
 by_cases h4 : s.size ≤ 4
 ·
  rw [if_pos zz3, if_pos h4]
 rw [if_neg zz3, if_neg h4, mask_eq s.size zz3 zz3]
 by_cases ho : s.size % 2 = 1
 ·
  have hr := span_range (bytesOf s) (s.size - 1)
  rw [if_pos ho, if_pos ho, span_eq k s h (s.size - 1) zz3]
  simp only [Option.bind_some]
  rw [if_pos zz3, if_pos zz3, if_pos zz3, Int.toNat_natCast, one_eq (k + 3) s h (s.size - 1) s.size zz3 zz3]
  simp only [Option.bind_some]
  rw [tens zz3 zz3, tens zz3 zz3, and_dec]
 ·
  have hr := span_range (bytesOf s) (s.size - 2)
  rw [if_neg ho, if_neg ho, span_eq k s h (s.size - 2) zz3]
  simp only [Option.bind_some]
  rw [if_neg zz3, if_pos zz3, if_pos zz3, Int.toNat_natCast, pair_eq (k + 2) s h (s.size - 2) s.size zz3 zz3]
  simp only [Option.bind_some]
  rw [and_dec]
theorem nine : bytesOf (⟨#[57]⟩ : ByteArray) = [57] := by decide
theorem pad_nine (D : List Int) (h : D.length < 4) : pad (D ++ [57]) = pad D := by
 unfold pad
 rw [List.append_assoc, List.length_append]
 congr 1
 rw [show 4 - D.length = (4 - (D.length + [(57 : Int)].length)) + 1 by simp; omega, List.replicate_succ]; rfl
theorem late_l0 : ∀ (d k : Nat) (s : ByteArray), s.size + d = 4 ∨ (d = 0 ∧ 4 ≤ s.size) → s.size ≤ 14 → Digs (bytesOf s) → when_late.l0 (k + d + 6) s = some (late (bytesOf s)) := by
 intro d
 induction d with
 | zero =>
   intro k s hd hs h
   rw [when_late.l0, if_neg zz3, if_pos zz3, if_pos zz3, year_eq k s h zz3]
   simp only [Option.bind_some]
   unfold late
   rw [pad_full _ zz46]
 | succ d ih =>
   intro k s hd hs h
   rw [show k + (d + 1) + 6 = (k + d + 6) + 1 by omega, when_late.l0, if_pos zz3, if_pos zz3, ih k _ (by rw [ByteArray.size_append]; left; show s.size + 1 + d = 4; omega) (by rw [ByteArray.size_append]; show s.size + 1 ≤ 14; omega) (by rw [bytesOf_append, nine]; exact h.append (fun x hx => by simp at hx; unfold Dig; omega))]
   unfold late
   rw [bytesOf_append, nine, pad_nine _ zz46]
theorem late_eq (k : Nat) (s : ByteArray) (hs : s.size ≤ 14) (h : Digs (bytesOf s)) : when_late.f (k + 10) s = some (late (bytesOf s)) := by
 unfold when_late.f
 by_cases h4 : s.size ≤ 4
 ·
  have := late_l0 (4 - s.size) (k + s.size) s zz3 hs h
  rwa [show k + s.size + (4 - s.size) + 6 = k + 10 by omega] at this
 ·
  exact late_l0 0 (k + 4) s zz3 hs h
def enc (u : Bool) : Option St → ByteArray × Int × Bool × Bool
 | some s => (strOfNums s.1, s.2, u, true)
 | none => ((⟨#[]⟩ : ByteArray), 0, false, false)
theorem digs_bytes {L : List Int} (h : Digs L) : Bytes L := fun b hb => by have := h b hb; unfold Dig at this; omega
theorem nums_append (a b : List Int) (ha : Bytes a) (hb : Bytes b) : strOfNums a ++ strOfNums b = strOfNums (a ++ b) := by
 refine bytesOf_inj ?_
 rw [bytesOf_append, bytesOf_nums _ ha, bytesOf_nums _ hb, bytesOf_nums _ (fun x hx => (List.mem_append.1 hx).elim (ha x) (hb x))]
theorem nums_size (L : List Int) (h : Bytes L) : (strOfNums L).size = L.length := by
 rw [← bytesOf_length, bytesOf_nums _ h]
theorem nums_empty (L : List Int) (h : Bytes L) : ((strOfNums L).toList == ([] : List UInt8)) = L.isEmpty := by
 have := toList_beq (strOfNums L) (⟨#[]⟩ : ByteArray)
 rw [show (⟨#[]⟩ : ByteArray).toList = ([] : List UInt8) from by decide +kernel, bytesOf_nums _ h, show bytesOf (⟨#[]⟩ : ByteArray) = [] from rfl] at this
 rw [this]; cases L <;> rfl
theorem cen_nums (b : Int) : strOfNums (cen b) = if b ≥ 53 then (⟨#[49, 57]⟩ : ByteArray) else (⟨#[50, 48]⟩ : ByteArray) := by
 unfold cen; split <;> decide +kernel
theorem push_j2 (k : Nat) (b : Int) (L : List Int) (n : Int) (u : Bool) (h : Digs L) (hb : Dig b) (hl : L.length ≤ 13) :
 when_State_Push.j2 (k + 12) b (strOfNums L) n u = some (enc u (if (may (L ++ [b]) && (u || late (L ++ [b]))) = true then some (L ++ [b], n) else none)) := by
 have h1 : Digs [b] := fun x hx => by simp at hx; rw [hx]; exact hb
 have h2 : Digs (L ++ [b]) := h.append h1
 have hsz : (strOfNums (L ++ [b])).size = L.length + 1 := by rw [nums_size _ (digs_bytes h2)]; simp
 rw [when_State_Push.j2]
 simp only [Option.bind_some]
 rw [if_pos (by rw [nums_size _ (digs_bytes h), nums_size _ (digs_bytes h1)]; simp; omega), nums_append _ _ (digs_bytes h) (digs_bytes h1),
  may_eq (k + 6) _ (by rw [bytesOf_nums _ (digs_bytes h2)]; exact h2) zz3, late_eq (k + 1) _ zz3 (by rw [bytesOf_nums _ (digs_bytes h2)]; exact h2), bytesOf_nums _ (digs_bytes h2)]
 simp only [Option.bind_some]
 cases may (L ++ [b]) <;> cases u <;> cases late (L ++ [b]) <;> rfl
theorem push_eq (k : Nat) (u : Bool) (L : List Int) (n b : Int) (h : Digs L) (hl : n - 1 ≠ 0 → L.length ≤ 13) (hn : -9223372036854775807 ≤ n ∧ n ≤ 9223372036854775807) :
 when_State_Push.f (k + 14) (strOfNums L) n u b = some (enc u (stp u (L, n) b)) := by
 unfold when_State_Push.f stp
 simp only
 rw [w64 (x := n - 1) zz3 zz3]
 by_cases h0 : n - 1 = 0
 ·
  rw [if_pos h0, if_pos h0]
  split <;> rfl
 rw [if_neg h0, if_neg h0]
 by_cases h1 : b < 48
 ·
  rw [if_pos h1, if_pos (.inl h1), when_State_Push.j0, if_pos rfl]; rfl
 rw [if_neg h1]
 by_cases h2 : b > 57
 ·
  rw [if_pos (.inr h2), show decide (b > 57) = true by simpa using h2, when_State_Push.j0, if_pos rfl]; rfl
 rw [if_neg zz3, show decide (b > 57) = false by simpa using h2, when_State_Push.j0, if_neg zz13, nums_empty _ (digs_bytes h)]
 have hb : Dig b := by unfold Dig; omega
 have hj1 : ∀ x : Bool, when_State_Push.j1 (k + 13) b x (strOfNums L) (n - 1) u = when_State_Push.j2 (k + 12) b (strOfNums (if x = true then cen b else L)) (n - 1) u := by
  intro x
  rw [when_State_Push.j1]
  cases x with
  | false => rw [if_neg zz13, if_neg zz13]
  | true =>
    rw [if_pos rfl, if_pos rfl, cen_nums]
    split <;> rfl
 have hj : (if u = true then when_State_Push.j1 (k + 13) b L.isEmpty (strOfNums L) (n - 1) u else when_State_Push.j1 (k + 13) b false (strOfNums L) (n - 1) u) = when_State_Push.j2 (k + 12) b (strOfNums (if (u && L.isEmpty) = true then cen b else L)) (n - 1) u := by
  cases u with
  | false => rw [if_neg zz13, hj1]; rfl
  | true => rw [if_pos rfl, hj1]; rfl
 rw [hj]
 refine push_j2 k b _ (n - 1) u ?_ hb ?_
 ·
  split
  ·
   exact cen_digs b
  ·
   exact h
 ·
  split
  ·
   rw [cen_len]; omega
  ·
   exact hl h0
def lenOf (u : Bool) : Int := if u = true then 13 else 15
structure Runs (u : Bool) (s : ByteArray) (ok : Bool) (i : Nat) (D : ByteArray) (n : Int) (u' : Bool) : Prop where
 ok_ : ok = (run u ([], lenOf u) ((bytesOf s).take i)).isSome
 st_ : ok = true → u' = u ∧ ∃ L, D = strOfNums L ∧ run u ([], lenOf u) ((bytesOf s).take i) = some (L, n)
theorem Runs.start (u : Bool) (s : ByteArray) : Runs u s true 0 (⟨#[]⟩ : ByteArray) (lenOf u) u := ⟨rfl, fun _ => ⟨rfl, [], rfl, rfl⟩⟩
theorem take_snoc (s : ByteArray) (i : Nat) (h : i < s.size) : (bytesOf s).take (i + 1) = (bytesOf s).take i ++ [bt s (i : Int)] := by
 have hl : i < (bytesOf s).length := by rw [bytesOf_length]; exact h
 rw [List.take_succ_eq_append_getElem hl, bt_get, Int.toNat_natCast, List.getD_eq_getElem?_getD, List.getElem?_eq_getElem hl]; rfl
theorem F_len_le (u : Bool) (p : List Int) : (F u p).length ≤ p.length + (if u = true then 2 else 0) := by
 rw [F_len]; cases u <;> simp; split <;> omega
end Go.Proofs.Ytpfconocipmcjaa.BDat
namespace Go.Proofs.Ytpfconocipmcjaa.Tx
def Bytes (l : List Int) : Prop := ∀ b, b ∈ l → 0 ≤ b ∧ b < 256
theorem Bytes.drop {l : List Int} (h : Bytes l) (n : Nat) : Bytes (l.drop n) := fun b hb => h b (List.mem_of_mem_drop hb)
def first (b : Int) : Option (Int × Int × Int) :=
 if b < 128 then some (0, 128, 191)
 else if b < 194 ∨ b > 244 then none
 else if b < 224 then some (1, 128, 191)
 else if b = 224 then some (2, 160, 191)
 else if b = 237 then some (2, 128, 159)
 else if b < 240 then some (2, 128, 191)
 else if b = 240 then some (3, 144, 191)
 else if b = 244 then some (3, 128, 143)
 else some (3, 128, 191)
abbrev St := Int × Int × Int × Int
def u8 (s : St) (b : Int) : Option St :=
 if s.2.1 > 0 then (if b < s.2.2.1 ∨ b > s.2.2.2 then none else some (s.1 - 1, s.2.1 - 1, 128, 191))
 else match first b with
  | none => none
  | some (m, lo, hi) => if m > s.1 - 1 then none else some (s.1 - 1, m, lo, hi)
def printable (b : Int) : Bool :=
 decide (65 ≤ b ∧ b ≤ 90) || decide (97 ≤ b ∧ b ≤ 122) || decide (48 ≤ b ∧ b ≤ 57) || b == 32 || b == 39 || b == 40 || b == 41 || b == 43 || b == 44 || b == 45 || b == 46 || b == 47 || b == 58 || b == 61 || b == 63
def plain (tag b : Int) : Bool := if tag = 22 then decide (b < 128) else if tag = 19 then printable b else true
def stp (tag : Int) (s : St) (b : Int) : Option St :=
 if tag = 12 then u8 s b else if plain tag b = true then some (s.1 - 1, s.2.1, s.2.2.1, s.2.2.2) else none
def run (tag : Int) : St → List Int → Option St
 | s, [] => some s
 | s, b :: r => match stp tag s b with
   | none => none
   | some s' => run tag s' r
theorem run_append (tag : Int) (a b : List Int) : ∀ s, run tag s (a ++ b) = (run tag s a).bind fun s' => run tag s' b := by
 induction a with
 | nil => intro s; rfl
 | cons x a ih =>
   intro s
   simp only [List.cons_append, run]
   cases stp tag s x with
   | none => rfl
   | some s' => exact ih s'
def cont (b : Int) : Bool := decide (128 ≤ b) && decide (b ≤ 191)
def ch2 (a b : Int) : Bool := cont b && decide (128 ≤ 64 * (a - 192) + b - 128)
def ch3 (a b c : Int) : Bool := cont b && cont c && decide (2048 ≤ 64 * (64 * (a - 224) + b - 128) + c - 128) && !(decide (55296 ≤ 64 * (64 * (a - 224) + b - 128) + c - 128) && decide (64 * (64 * (a - 224) + b - 128) + c - 128 ≤ 57343))
def ch4 (a b c d : Int) : Bool := cont b && cont c && cont d && decide (65536 ≤ 64 * (64 * (64 * (a - 240) + b - 128) + c - 128) + d - 128) && decide (64 * (64 * (64 * (a - 240) + b - 128) + c - 128) + d - 128 ≤ 1114111)
def chr : List Int → Nat
 | [] => 0
 | a :: r =>
   if a < 128 then 1
   else if 192 ≤ a ∧ a < 224 then (match r with
    | b :: _ => if ch2 a b = true then 2 else 0
    | _ => 0)
   else if 224 ≤ a ∧ a < 240 then (match r with
    | b :: c :: _ => if ch3 a b c = true then 3 else 0
    | _ => 0)
   else if 240 ≤ a ∧ a < 248 then (match r with
    | b :: c :: d :: _ => if ch4 a b c d = true then 4 else 0
    | _ => 0)
   else 0
theorem chr_le (l : List Int) : chr l ≤ l.length ∧ chr l ≤ 4 := by
 unfold chr
 cases l with
 | nil => simp
 | cons a r =>
   simp only
   split
   ·
    simp
   split
   ·
    cases r with
    | nil => simp
    | cons b r => simp only; split <;> simp
   split
   ·
    cases r with
    | nil => simp
    | cons b r =>
      cases r with
      | nil => simp
      | cons c r => simp only; split <;> simp
   split
   ·
    cases r with
    | nil => simp
    | cons b r =>
      cases r with
      | nil => simp
      | cons c r =>
        cases r with
        | nil => simp
        | cons d r => simp only; split <;> simp
   ·
    simp
def lst : Nat → List Int → Nat
 | 0, _ => 0
 | n + 1, l => if chr l = 0 then 0 else chr l + lst n (l.drop (chr l))
def valid : Nat → List Int → Bool
 | 0, l => l.isEmpty
 | n + 1, l => if l.isEmpty = true then true else if chr l = 0 then false else valid n (l.drop (chr l))
theorem lst_more : ∀ (n m : Nat) (l : List Int), l.length ≤ n → l.length ≤ m → lst n l = lst m l := by
 intro n
 induction n with
 | zero =>
   intro m l h _
   obtain rfl : l = [] := List.eq_nil_of_length_eq_zero zz3
   cases m with
   | zero => rfl
   | succ m => rfl
 | succ n ih =>
   intro m l h1 h2
   cases m with
   | zero =>
     obtain rfl : l = [] := List.eq_nil_of_length_eq_zero zz3
     rfl
   | succ m =>
     simp only [lst]
     split
     ·
      rfl
     ·
      rename_i hc
      have := chr_le l
      rw [ih m (l.drop (chr l)) (by rw [List.length_drop]; omega) (by rw [List.length_drop]; omega)]
theorem valid_more : ∀ (n m : Nat) (l : List Int), l.length ≤ n → l.length ≤ m → valid n l = valid m l := by
 intro n
 induction n with
 | zero =>
   intro m l h _
   obtain rfl : l = [] := List.eq_nil_of_length_eq_zero zz3
   cases m with
   | zero => rfl
   | succ m => rfl
 | succ n ih =>
   intro m l h1 h2
   cases m with
   | zero =>
     obtain rfl : l = [] := List.eq_nil_of_length_eq_zero zz3
     rfl
   | succ m =>
     simp only [valid]
     split
     ·
      rfl
     split
     ·
      rfl
     ·
      rename_i hc
      have := chr_le l
      rw [ih m (l.drop (chr l)) (by rw [List.length_drop]; omega) (by rw [List.length_drop]; omega)]
def rep (k : Nat) (b : Int) : List Int := List.replicate k b
def ends (t : List Int) (k : Nat) : Bool := chr (t ++ rep k 128) == t.length + k || chr (t ++ rep k 191) == t.length + k
def fill (left : Int) (t : List Int) : Bool :=
 decide (1 ≤ left) && (ends t 1 || decide (2 ≤ left) && (ends t 2 || decide (3 ≤ left) && ends t 3))
def canU (n : Int) (l : List Int) : Bool :=
 if l.length - lst l.length l > 3 then false
 else if lst l.length l = l.length then true
 else fill (n - l.length) (l.drop (lst l.length l))
theorem first_hi (b : Int) (h : 128 ≤ b) : first b = if b < 194 ∨ b > 244 then none
 else if b < 224 then some (1, 128, 191)
 else if b = 224 then some (2, 160, 191)
 else if b = 237 then some (2, 128, 159)
 else if b < 240 then some (2, 128, 191)
 else if b = 240 then some (3, 144, 191)
 else if b = 244 then some (3, 128, 143)
 else some (3, 128, 191) := by
 unfold first
 rw [if_neg zz3]
theorem run12 (s : St) (b : Int) (r : List Int) : run 12 s (b :: r) = match u8 s b with
 | none => none
 | some s' => run 12 s' r := rfl
theorem u8_in (l m lo hi b : Int) (h : 0 < m) : u8 (l, m, lo, hi) b = if b < lo ∨ b > hi then none else some (l - 1, m - 1, 128, 191) := by
 unfold u8; rw [if_pos h]
theorem u8_new (l lo hi b : Int) : u8 (l, 0, lo, hi) b = match first b with
 | none => none
 | some (m, lo, hi) => if m > l - 1 then none else some (l - 1, m, lo, hi) := by
 unfold u8; rw [if_neg zz29]
theorem run_chr (N lo hi : Int) (l : List Int) (hb : Bytes l) (hN : (l.length : Int) ≤ N) (hc : chr l ≠ 0) :
 run 12 (N, 0, lo, hi) l = run 12 (N - chr l, 0, 128, 191) (l.drop (chr l)) := by
 cases l with
 | nil => exact absurd rfl hc
 | cons a r =>
   have ha := hb a zz29
   simp only [List.length_cons] at hN
   rw [run12, u8_new]
   by_cases h1 : a < 128
   ·
    have e : chr (a :: r) = 1 := by simp only [chr]; rw [if_pos h1]
    rw [e]
    have f : first a = some (0, 128, 191) := by unfold first; rw [if_pos h1]
    rw [f]
    simp only
    rw [if_neg zz3]
    simp
   rw [first_hi a zz3]
   by_cases h2 : a < 224
   ·
    cases r with
    | nil => exact absurd (by simp [chr, h1]) hc
    | cons b r =>
      have e : chr (a :: b :: r) = if 192 ≤ a ∧ ch2 a b = true then 2 else 0 := by
       simp only [chr]
       rw [if_neg h1]
       by_cases h : 192 ≤ a
       ·
        rw [if_pos ⟨h, h2⟩]; simp [h]
       ·
        rw [if_neg zz3, if_neg zz3, if_neg zz3, if_neg zz3]
      rw [e] at hc ⊢
      by_cases hq : 192 ≤ a ∧ ch2 a b = true
      ·
       obtain ⟨g1, g2⟩ := hq
       simp only [ch2, cont, Bool.and_eq_true, decide_eq_true_eq] at g2
       rw [if_pos (show 192 ≤ a ∧ ch2 a b = true from ⟨g1, by simp [ch2, cont]; omega⟩), if_neg zz3, if_pos h2]
       simp only [List.length_cons] at hN
       simp only
       rw [if_neg zz3]
       simp only
       rw [run12, u8_in _ _ _ _ _ zz13, if_neg zz3]
       simp only [List.drop_succ_cons, List.drop_zero]
       rw [show N - 1 - 1 = N - ((2 : Nat) : Int) by omega]; rfl
      ·
       rw [if_neg hq] at hc; exact absurd rfl hc
   by_cases h3 : a < 240
   ·
    cases r with
    | nil => exact absurd (by simp only [chr]; rw [if_neg h1, if_neg zz3, if_pos zz3]) hc
    | cons b r =>
      cases r with
      | nil => exact absurd (by simp only [chr]; rw [if_neg h1, if_neg zz3, if_pos zz3]) hc
      | cons c r =>
        have e : chr (a :: b :: c :: r) = if ch3 a b c = true then 3 else 0 := by
         simp only [chr]; rw [if_neg h1, if_neg zz3, if_pos zz3]
        rw [e] at hc ⊢
        by_cases hq : ch3 a b c = true
        ·
         rw [if_pos hq]
         simp only [ch3, cont, Bool.and_eq_true, decide_eq_true_eq, Bool.not_eq_true', Bool.and_eq_false_iff, decide_eq_false_iff_not] at hq
         simp only [List.length_cons] at hN
         rw [if_neg zz3, if_neg h2]
         have fin : ∀ lo' hi' : Int, lo' ≤ b → b ≤ hi' → (match (if (2 : Int) > N - 1 then none else some (N - 1, (2 : Int), lo', hi') : Option St) with
          | none => none
          | some s' => run 12 s' (b :: c :: r)) = run 12 (N - ((3 : Nat) : Int), 0, 128, 191) (List.drop 3 (a :: b :: c :: r)) := by
          intro lo' hi' g1 g2
          rw [if_neg zz3]
          simp only
          rw [run12, u8_in _ _ _ _ _ zz13, if_neg zz3]
          simp only
          rw [run12, u8_in _ _ _ _ _ zz13, if_neg zz3]
          simp only [List.drop_succ_cons, List.drop_zero]
          rw [show N - 1 - 1 - 1 = N - ((3 : Nat) : Int) by omega]; rfl
         by_cases g1 : a = 224
         ·
          rw [if_pos g1]; exact fin _ _ zz3 zz3
         by_cases g2 : a = 237
         ·
          rw [if_neg g1, if_pos g2]; exact fin _ _ zz3 zz3
         ·
          rw [if_neg g1, if_neg g2, if_pos h3]; exact fin _ _ zz3 zz3
        ·
         rw [if_neg hq] at hc; exact absurd rfl hc
   ·
    by_cases h4 : a < 248
    ·
     cases r with
     | nil => exact absurd (by simp only [chr]; rw [if_neg h1, if_neg zz3, if_neg zz3, if_pos zz3]) hc
     | cons b r =>
       cases r with
       | nil => exact absurd (by simp only [chr]; rw [if_neg h1, if_neg zz3, if_neg zz3, if_pos zz3]) hc
       | cons c r =>
         cases r with
         | nil => exact absurd (by simp only [chr]; rw [if_neg h1, if_neg zz3, if_neg zz3, if_pos zz3]) hc
         | cons d r =>
           have e : chr (a :: b :: c :: d :: r) = if ch4 a b c d = true then 4 else 0 := by
            simp only [chr]; rw [if_neg h1, if_neg zz3, if_neg zz3, if_pos zz3]
           rw [e] at hc ⊢
           by_cases hq : ch4 a b c d = true
           ·
            rw [if_pos hq]
            simp only [ch4, cont, Bool.and_eq_true, decide_eq_true_eq] at hq
            simp only [List.length_cons] at hN
            have fin : ∀ lo' hi' : Int, lo' ≤ b → b ≤ hi' → (match (if (3 : Int) > N - 1 then none else some (N - 1, (3 : Int), lo', hi') : Option St) with
             | none => none
             | some s' => run 12 s' (b :: c :: d :: r)) = run 12 (N - ((4 : Nat) : Int), 0, 128, 191) (List.drop 4 (a :: b :: c :: d :: r)) := by
             intro lo' hi' g1 g2
             rw [if_neg zz3]
             simp only
             rw [run12, u8_in _ _ _ _ _ zz13, if_neg zz3]
             simp only
             rw [run12, u8_in _ _ _ _ _ zz13, if_neg zz3]
             simp only
             rw [run12, u8_in _ _ _ _ _ zz13, if_neg zz3]
             simp only [List.drop_succ_cons, List.drop_zero]
             rw [show N - 1 - 1 - 1 - 1 = N - ((4 : Nat) : Int) by omega]; rfl
            rw [if_neg zz3, if_neg h2, if_neg zz3, if_neg zz3, if_neg h3]
            by_cases g1 : a = 240
            ·
             rw [if_pos g1]; exact fin _ _ zz3 zz3
            by_cases g2 : a = 244
            ·
             rw [if_neg g1, if_pos g2]; exact fin _ _ zz3 zz3
            ·
             rw [if_neg g1, if_neg g2]; exact fin _ _ zz3 zz3
           ·
            rw [if_neg hq] at hc; exact absurd rfl hc
    ·
     exact absurd (by simp only [chr]; rw [if_neg h1, if_neg zz3, if_neg zz3, if_neg zz3]) hc
end Go.Proofs.Ytpfconocipmcjaa.Tx
namespace Go.Proofs.Ytpfconocipmcjaa.Tx
theorem rep1 (b : Int) : rep 1 b = [b] := rfl
theorem rep2 (b : Int) : rep 2 b = [b, b] := rfl
theorem rep3 (b : Int) : rep 3 b = [b, b, b] := rfl
theorem run_part (N lo hi : Int) (l : List Int) (hb : Bytes l) (hN : (l.length : Int) ≤ N) (h0 : l ≠ []) (hc : chr l = 0) :
 (run 12 (N, 0, lo, hi) l).isSome = (decide (l.length ≤ 3) && fill (N - l.length) l) := by
 cases l with
 | nil => exact absurd rfl h0
 | cons a r =>
   have ha := hb a zz29
   simp only [List.length_cons] at hN
   have h1 : ¬ a < 128 := by intro h; simp only [chr] at hc; rw [if_pos h] at hc; cases hc
   rw [run12, u8_new, first_hi a zz3]
   have none_ : (a < 194 ∨ a > 244) → fill (N - ((a :: r).length : Int)) (a :: r) = false := by
    intro h
    have e : ∀ (k : Nat) (b : Int), (b = 128 ∨ b = 191) → (k = 1 ∨ k = 2 ∨ k = 3) → (chr (a :: r ++ rep k b) == (a :: r).length + k) = false := by
     intro k b hb' hk
     rw [beq_eq_false_iff_ne]
     have hs := chr_le (a :: r ++ rep k b)
     have : chr (a :: r ++ rep k b) = 0 := by
      simp only [List.cons_append, chr]
      rw [if_neg h1]
      have hbb : ∀ x, x ∈ r ++ rep k b → 0 ≤ x ∧ x < 256 := by
       intro x hx
       rcases List.mem_append.1 hx with hx | hx
       ·
        exact hb x (by simp [hx])
       ·
        have := List.eq_of_mem_replicate hx; omega
      split
      ·
       rename_i g
       split
       ·
        rename_i b' r' heq
        rw [if_neg]
        simp only [ch2, cont, Bool.and_eq_true, decide_eq_true_eq]
        omega
       ·
        rfl
      split
      ·
       omega
      split
      ·
       split
       ·
        rename_i b' c' d' r' heq
        rw [if_neg]
        simp only [ch4, cont, Bool.and_eq_true, decide_eq_true_eq]
        omega
       ·
        rfl
      ·
       rfl
     rw [this]; simp; omega
    simp only [fill, ends]
    rw [e 1 128 (.inl rfl) (.inl rfl), e 1 191 (.inr rfl) (.inl rfl), e 2 128 (.inl rfl) (.inr (.inl rfl)), e 2 191 (.inr rfl) (.inr (.inl rfl)), e 3 128 (.inl rfl) (.inr (.inr rfl)), e 3 191 (.inr rfl) (.inr (.inr rfl))]
    simp
   by_cases hf : a < 194 ∨ a > 244
   ·
    rw [if_pos hf, none_ hf]; simp
   rw [if_neg hf]
   by_cases h2 : a < 224
   ·
    rw [if_pos h2]
    simp only
    cases r with
    | nil =>
      simp only [List.length_nil] at hN
      have e1 : chr ([a] ++ rep 1 128) = 2 := by
       simp only [rep1, List.cons_append, List.nil_append, chr]
       rw [if_neg h1, if_pos zz3, if_pos (by simp [ch2, cont]; omega)]
      have e2 : ∀ b, (b = 128 ∨ b = 191) → chr ([a] ++ rep 2 b) = 2 := by
       intro b hb'
       simp only [rep2, List.cons_append, List.nil_append, chr]
       rw [if_neg h1, if_pos zz3, if_pos (by simp [ch2, cont]; omega)]
      have e3 : ∀ b, (b = 128 ∨ b = 191) → chr ([a] ++ rep 3 b) = 2 := by
       intro b hb'
       simp only [rep3, List.cons_append, List.nil_append, chr]
       rw [if_neg h1, if_pos zz3, if_pos (by simp [ch2, cont]; omega)]
      simp only [fill, ends]
      rw [e1, e2 128 (.inl rfl), e2 191 (.inr rfl), e3 128 (.inl rfl), e3 191 (.inr rfl)]
      by_cases hl : (1 : Int) > N - 1
      ·
       rw [if_pos hl]; simp; omega
      ·
       rw [if_neg hl]; simp [run]; omega
    | cons b r =>
      have hnc : ch2 a b = false := by
       simp only [chr] at hc
       rw [if_neg h1, if_pos zz3] at hc
       cases h : ch2 a b with
       | false => rfl
       | true => rw [h] at hc; simp at hc
      have hbad : b < 128 ∨ b > 191 := by
       simp only [ch2, cont, Bool.and_eq_false_iff, decide_eq_false_iff_not] at hnc
       omega
      have e : ∀ (k : Nat) (x : Int), chr (a :: b :: r ++ rep k x) = 0 := by
       intro k x
       simp only [List.cons_append, chr]
       rw [if_neg h1, if_pos zz3, hnc]; rfl
      simp only [fill, ends]
      rw [e, e, e, e, e, e]
      simp only [List.length_cons] at hN ⊢
      rw [if_neg zz3]
      simp only
      rw [run12, u8_in _ _ _ _ _ zz13, if_pos hbad]
      simp
   by_cases h3 : a < 240
   ·
    have mid : ∀ lo' hi' : Int, (∀ x, (lo' ≤ x ∧ x ≤ hi') ↔ (128 ≤ x ∧ x ≤ 191 ∧ (a = 224 → 160 ≤ x) ∧ (a = 237 → x ≤ 159))) →
     ((match (if (2 : Int) > N - 1 then none else some (N - 1, (2 : Int), lo', hi') : Option St) with
       | none => none
       | some s' => run 12 s' r) : Option St).isSome = (decide ((a :: r).length ≤ 3) && fill (N - ((a :: r).length : Int)) (a :: r)) := by
     intro lo' hi' hlh
     have c3 : ∀ (b c : Int), ch3 a b c = (decide (lo' ≤ b ∧ b ≤ hi') && cont c) := by
      intro b c
      have := hlh b
      rw [Bool.eq_iff_iff]
      simp only [ch3, cont, Bool.and_eq_true, decide_eq_true_eq, Bool.not_eq_true', Bool.and_eq_false_iff, decide_eq_false_iff_not, this]
      omega
     have chr3 : ∀ (b c : Int) (t : List Int), chr (a :: b :: c :: t) = if ch3 a b c = true then 3 else 0 := by
      intro b c t
      simp only [chr]
      rw [if_neg h1, if_neg zz3, if_pos zz3]
     have w128 : cont 128 = true := by decide
     have w191 : cont 191 = true := by decide
     cases r with
     | nil =>
       simp only [List.length_nil] at hN
       have e1 : ∀ x, chr ([a] ++ rep 1 x) = 0 := by
        intro x
        simp only [rep1, List.cons_append, List.nil_append, chr]
        rw [if_neg h1, if_neg zz3, if_pos zz3]
       have p1 : ∀ x, [a] ++ rep 2 x = [a, x, x] := fun x => rfl
       have p2 : ∀ x, [a] ++ rep 3 x = [a, x, x, x] := fun x => rfl
       have q : (chr [a, 128, 128] == 3 || chr [a, 191, 191] == 3) = true := by
        rw [chr3, chr3, c3, c3, w128, w191]
        by_cases h : a = 224
        ·
         have : decide (lo' ≤ 191 ∧ 191 ≤ hi') = true := by rw [decide_eq_true_eq, hlh]; omega
         rw [this]; simp
        ·
         have : decide (lo' ≤ 128 ∧ 128 ≤ hi') = true := by rw [decide_eq_true_eq, hlh]; omega
         rw [this]; simp
       simp only [fill, ends]
       rw [e1, e1, p1, p1, p2, p2, chr3, chr3, chr3, chr3]
       rw [chr3, chr3] at q
       by_cases hl : (2 : Int) > N - 1
       ·
        rw [if_pos hl]
        simp only [List.length_cons, List.length_nil]
        have : decide ((2 : Int) ≤ N - ((0 + 1 : Nat) : Int)) = false := by simp; omega
        rw [this]; simp
       ·
        rw [if_neg hl]
        simp only [List.length_cons, List.length_nil, run, Option.isSome_some]
        have t1 : decide ((1 : Int) ≤ N - ((0 + 1 : Nat) : Int)) = true := by simp; omega
        have t2 : decide ((2 : Int) ≤ N - ((0 + 1 : Nat) : Int)) = true := by simp; omega
        rw [t1, t2, show 0 + 1 + 2 = 3 from rfl, q]; simp
     | cons b r =>
       simp only [List.length_cons] at hN
       by_cases hl : (2 : Int) > N - 1
       ·
        rw [if_pos hl]
        simp only [Option.isSome_none, fill, List.length_cons]
        have : decide ((1 : Int) ≤ N - ((r.length + 1 + 1 : Nat) : Int)) = false := by simp; omega
        rw [this]; simp
       rw [if_neg hl]
       simp only
       rw [run12, u8_in _ _ _ _ _ zz13]
       by_cases hbb : lo' ≤ b ∧ b ≤ hi'
       ·
        rw [if_neg zz3]
        simp only
        cases r with
        | nil =>
          simp only [List.length_nil] at hN
          have p1 : ∀ x, [a, b] ++ rep 1 x = [a, b, x] := fun x => rfl
          have p2 : ∀ x, [a, b] ++ rep 2 x = [a, b, x, x] := fun x => rfl
          have p3 : ∀ x, [a, b] ++ rep 3 x = [a, b, x, x, x] := fun x => rfl
          have d1 : decide (lo' ≤ b ∧ b ≤ hi') = true := by simpa using hbb
          simp only [fill, ends]
          rw [p1, p1, p2, p2, p3, p3, chr3, chr3, chr3, chr3, chr3, chr3, c3, c3, w128, w191, d1]
          simp only [run, Option.isSome_some, List.length_cons, List.length_nil]
          simp
          omega
        | cons c r =>
          have hnc : cont c = false := by
           rw [chr3, c3] at hc
           have d1 : decide (lo' ≤ b ∧ b ≤ hi') = true := by simpa using hbb
           rw [d1] at hc
           cases h : cont c with
           | false => rfl
           | true => rw [h] at hc; simp at hc
          have e : ∀ (k : Nat) (x : Int), chr (a :: b :: c :: r ++ rep k x) = 0 := by
           intro k x
           simp only [List.cons_append]
           rw [chr3, c3, hnc]; simp
          simp only [fill, ends]
          rw [e, e, e, e, e, e, run12, u8_in _ _ _ _ _ zz13]
          simp only [cont, Bool.and_eq_false_iff, decide_eq_false_iff_not] at hnc
          rw [if_pos zz3]
          simp
       ·
        rw [if_pos zz3]
        have d1 : decide (lo' ≤ b ∧ b ≤ hi') = false := by simpa using hbb
        have e : ∀ (k : Nat) (x : Int), 1 ≤ k → chr (a :: b :: r ++ rep k x) = 0 := by
         intro k x hk
         cases r with
         | nil =>
           obtain ⟨j, rfl⟩ : ∃ j, k = j + 1 := ⟨k - 1, zz3⟩
           have : [a, b] ++ rep (j + 1) x = a :: b :: x :: rep j x := rfl
           rw [this, chr3, c3, d1]; simp
         | cons c r =>
           simp only [List.cons_append]
           rw [chr3, c3, d1]; simp
        simp only [fill, ends]
        rw [e _ _ zz13, e _ _ zz13, e _ _ zz13, e _ _ zz13, e _ _ zz13, e _ _ zz13]
        simp
    rw [if_neg h2]
    by_cases g1 : a = 224
    ·
     rw [if_pos g1]; exact mid 160 191 (fun x => by omega)
    by_cases g2 : a = 237
    ·
     rw [if_neg g1, if_pos g2]; exact mid 128 159 (fun x => by omega)
    ·
     rw [if_neg g1, if_neg g2, if_pos h3]; exact mid 128 191 (fun x => by omega)
   ·
    have mid : ∀ lo' hi' : Int, (∀ x, (lo' ≤ x ∧ x ≤ hi') ↔ (128 ≤ x ∧ x ≤ 191 ∧ (a = 240 → 144 ≤ x) ∧ (a = 244 → x ≤ 143))) →
     ((match (if (3 : Int) > N - 1 then none else some (N - 1, (3 : Int), lo', hi') : Option St) with
       | none => none
       | some s' => run 12 s' r) : Option St).isSome = (decide ((a :: r).length ≤ 3) && fill (N - ((a :: r).length : Int)) (a :: r)) := by
     intro lo' hi' hlh
     have c4 : ∀ (b c d : Int), ch4 a b c d = (decide (lo' ≤ b ∧ b ≤ hi') && cont c && cont d) := by
      intro b c d
      have := hlh b
      rw [Bool.eq_iff_iff]
      simp only [ch4, cont, Bool.and_eq_true, decide_eq_true_eq, this]
      omega
     have chr4 : ∀ (b c d : Int) (t : List Int), chr (a :: b :: c :: d :: t) = if ch4 a b c d = true then 4 else 0 := by
      intro b c d t
      simp only [chr]
      rw [if_neg h1, if_neg zz3, if_neg zz3, if_pos zz3]
     have short : ∀ t : List Int, t.length ≤ 2 → chr (a :: t) = 0 := by
      intro t ht
      simp only [chr]
      rw [if_neg h1, if_neg zz3, if_neg zz3, if_pos zz3]
      match t, ht with
      | [], _ => rfl
      | [_], _ => rfl
      | [_, _], _ => rfl
     have w128 : cont 128 = true := by decide
     have w191 : cont 191 = true := by decide
     cases r with
     | nil =>
       simp only [List.length_nil] at hN
       have e1 : ∀ x, chr ([a] ++ rep 1 x) = 0 := fun x => short [x] zz29
       have e2 : ∀ x, chr ([a] ++ rep 2 x) = 0 := fun x => short [x, x] zz29
       have p3 : ∀ x, [a] ++ rep 3 x = [a, x, x, x] := fun x => rfl
       have q : (chr [a, 128, 128, 128] == 4 || chr [a, 191, 191, 191] == 4) = true := by
        rw [chr4, chr4, c4, c4, w128, w191]
        by_cases h : a = 240
        ·
         have : decide (lo' ≤ 191 ∧ 191 ≤ hi') = true := by rw [decide_eq_true_eq, hlh]; omega
         rw [this]; simp
        ·
         have : decide (lo' ≤ 128 ∧ 128 ≤ hi') = true := by rw [decide_eq_true_eq, hlh]; omega
         rw [this]; simp
       simp only [fill, ends]
       rw [e1, e1, e2, e2, p3, p3]
       by_cases hl : (3 : Int) > N - 1
       ·
        rw [if_pos hl]
        simp only [List.length_cons, List.length_nil]
        have : decide ((3 : Int) ≤ N - ((0 + 1 : Nat) : Int)) = false := by simp; omega
        rw [this]; simp
       ·
        rw [if_neg hl]
        simp only [List.length_cons, List.length_nil, run, Option.isSome_some]
        have t1 : decide ((1 : Int) ≤ N - ((0 + 1 : Nat) : Int)) = true := by simp; omega
        have t2 : decide ((2 : Int) ≤ N - ((0 + 1 : Nat) : Int)) = true := by simp; omega
        have t3 : decide ((3 : Int) ≤ N - ((0 + 1 : Nat) : Int)) = true := by simp; omega
        rw [t1, t2, t3, show 0 + 1 + 3 = 4 from rfl, q]; simp
     | cons b r =>
       simp only [List.length_cons] at hN
       by_cases hl : (3 : Int) > N - 1
       ·
        rw [if_pos hl]
        simp only [Option.isSome_none]
        cases r with
        | nil =>
          simp only [fill, ends]
          rw [show ([a, b] ++ rep 1 128) = a :: [b, 128] from rfl, show ([a, b] ++ rep 1 191) = a :: [b, 191] from rfl, short _ zz29, short _ zz29]
          simp only [List.length_cons, List.length_nil] at hN ⊢
          have : decide ((2 : Int) ≤ N - ((0 + 1 + 1 : Nat) : Int)) = false := by simp; omega
          rw [this]; simp
        | cons c r =>
          simp only [fill, List.length_cons] at hN ⊢
          have : decide ((1 : Int) ≤ N - ((r.length + 1 + 1 + 1 : Nat) : Int)) = false := by simp; omega
          rw [this]; simp
       rw [if_neg hl]
       simp only
       rw [run12, u8_in _ _ _ _ _ zz13]
       by_cases hbb : lo' ≤ b ∧ b ≤ hi'
       ·
        have d1 : decide (lo' ≤ b ∧ b ≤ hi') = true := by simpa using hbb
        rw [if_neg zz3]
        simp only
        cases r with
        | nil =>
          simp only [List.length_nil] at hN
          have p1 : ∀ x, chr ([a, b] ++ rep 1 x) = 0 := fun x => short [b, x] zz29
          have p2 : ∀ x, [a, b] ++ rep 2 x = [a, b, x, x] := fun x => rfl
          have p3 : ∀ x, [a, b] ++ rep 3 x = [a, b, x, x, x] := fun x => rfl
          simp only [fill, ends]
          rw [p1, p1, p2, p2, p3, p3, chr4, chr4, chr4, chr4, c4, c4, w128, w191, d1]
          simp only [run, Option.isSome_some, List.length_cons, List.length_nil]
          simp
          omega
        | cons c r =>
          simp only [List.length_cons] at hN
          rw [run12, u8_in _ _ _ _ _ zz13]
          by_cases hcc : 128 ≤ c ∧ c ≤ 191
          ·
           have dc : cont c = true := by simp [cont]; omega
           rw [if_neg zz3]
           simp only
           cases r with
           | nil =>
             simp only [List.length_nil] at hN
             have p1 : ∀ x, [a, b, c] ++ rep 1 x = [a, b, c, x] := fun x => rfl
             have p2 : ∀ x, [a, b, c] ++ rep 2 x = [a, b, c, x, x] := fun x => rfl
             have p3 : ∀ x, [a, b, c] ++ rep 3 x = [a, b, c, x, x, x] := fun x => rfl
             simp only [fill, ends]
             rw [p1, p1, p2, p2, p3, p3, chr4, chr4, chr4, chr4, chr4, chr4, c4, c4, w128, w191, d1, dc]
             simp only [run, Option.isSome_some, List.length_cons, List.length_nil]
             simp
             omega
           | cons d r =>
             have hnd : cont d = false := by
              rw [chr4, c4, d1, dc] at hc
              cases h : cont d with
              | false => rfl
              | true => rw [h] at hc; simp at hc
             rw [run12, u8_in _ _ _ _ _ zz13]
             simp only [cont, Bool.and_eq_false_iff, decide_eq_false_iff_not] at hnd
             rw [if_pos zz3]
             simp
          ·
           have dc : cont c = false := by simp [cont]; omega
           rw [if_pos zz3]
           have e : ∀ (k : Nat) (x : Int), 1 ≤ k → chr (a :: b :: c :: r ++ rep k x) = 0 := by
            intro k x hk
            cases r with
            | nil =>
              obtain ⟨j, rfl⟩ : ∃ j, k = j + 1 := ⟨k - 1, zz3⟩
              have : [a, b, c] ++ rep (j + 1) x = a :: b :: c :: x :: rep j x := rfl
              rw [this, chr4, c4, dc]; simp
            | cons d r =>
              simp only [List.cons_append]
              rw [chr4, c4, dc]; simp
           simp only [fill, ends]
           rw [e _ _ zz13, e _ _ zz13, e _ _ zz13, e _ _ zz13, e _ _ zz13, e _ _ zz13]
           simp
       ·
        have d1 : decide (lo' ≤ b ∧ b ≤ hi') = false := by simpa using hbb
        rw [if_pos zz3]
        have e : ∀ (k : Nat) (x : Int), 1 ≤ k → chr (a :: b :: r ++ rep k x) = 0 := by
         intro k x hk
         cases r with
         | nil =>
           obtain ⟨j, rfl⟩ : ∃ j, k = j + 1 := ⟨k - 1, zz3⟩
           cases j with
           | zero => exact short [b, x] zz29
           | succ j =>
             have : [a, b] ++ rep (j + 1 + 1) x = a :: b :: x :: x :: rep j x := rfl
             rw [this, chr4, c4, d1]; simp
         | cons c r =>
           cases r with
           | nil =>
             obtain ⟨j, rfl⟩ : ∃ j, k = j + 1 := ⟨k - 1, zz3⟩
             have : [a, b, c] ++ rep (j + 1) x = a :: b :: c :: x :: rep j x := rfl
             rw [this, chr4, c4, d1]; simp
           | cons d r =>
             simp only [List.cons_append]
             rw [chr4, c4, d1]; simp
        simp only [fill, ends]
        rw [e _ _ zz13, e _ _ zz13, e _ _ zz13, e _ _ zz13, e _ _ zz13, e _ _ zz13]
        simp
    rw [if_neg h2, if_neg zz3, if_neg zz3, if_neg h3]
    by_cases g1 : a = 240
    ·
     rw [if_pos g1]; exact mid 144 191 (fun x => by omega)
    by_cases g2 : a = 244
    ·
     rw [if_neg g1, if_pos g2]; exact mid 128 143 (fun x => by omega)
    ·
     rw [if_neg g1, if_neg g2]; exact mid 128 191 (fun x => by omega)
theorem run_can : ∀ (n : Nat) (l : List Int) (N lo hi : Int), l.length ≤ n → Bytes l → (l.length : Int) ≤ N → (run 12 (N, 0, lo, hi) l).isSome = canU N l := by
 intro n
 induction n with
 | zero =>
   intro l N lo hi hn _ _
   obtain rfl : l = [] := List.eq_nil_of_length_eq_zero zz3
   simp [run, canU, lst]
 | succ n ih =>
   intro l N lo hi hn hb hN
   by_cases h0 : l = []
   ·
    subst h0; simp [run, canU, lst]
   have hpos : 0 < l.length := List.length_pos_iff.2 h0
   obtain ⟨m, hm⟩ : ∃ m, l.length = m + 1 := ⟨l.length - 1, zz3⟩
   by_cases hc : chr l = 0
   ·
    rw [run_part N lo hi l hb hN h0 hc]
    have : lst l.length l = 0 := by rw [hm]; simp only [lst]; rw [if_pos hc]
    unfold canU
    rw [this, if_neg (show ¬ (0 = l.length) by omega), List.drop_zero]
    by_cases h3 : l.length ≤ 3
    ·
     rw [if_neg zz3]; simp [h3]
    ·
     rw [if_pos zz3]; simp [h3]
   ·
    have hle := chr_le l
    have hdl : (l.drop (chr l)).length = l.length - chr l := List.length_drop
    rw [run_chr N lo hi l hb hN hc, ih _ _ _ _ zz3 (hb.drop _) zz3]
    have e : lst l.length l = chr l + lst (l.drop (chr l)).length (l.drop (chr l)) := by
     rw [hm]; simp only [lst]; rw [if_neg hc]
     rw [lst_more m (l.drop (chr l)).length _ zz3 zz3]
    have hll : ∀ (k : Nat) (t : List Int), lst k t ≤ t.length := by
     intro k
     induction k with
     | zero => intro t; simp [lst]
     | succ k ih2 =>
       intro t
       simp only [lst]
       split
       ·
        omega
       ·
        have := ih2 (t.drop (chr t))
        have := chr_le t
        rw [List.length_drop] at *
        omega
    have hq := hll (l.drop (chr l)).length (l.drop (chr l))
    unfold canU
    rw [e, hdl] at *
    rw [List.drop_drop]
    generalize lst (l.length - chr l) (l.drop (chr l)) = q at *
    have i1 : (l.length - chr l - q > 3) ↔ (l.length - (chr l + q) > 3) := by omega
    have i2 : (q = l.length - chr l) ↔ (chr l + q = l.length) := by omega
    simp only [i1, i2]
    rw [show N - (chr l : Int) - ((l.length - chr l : Nat) : Int) = N - (l.length : Int) by omega]
theorem run_plain (tag : Int) (h : tag ≠ 12) : ∀ (l : List Int) (s : St), (run tag s l).isSome = l.all (plain tag) := by
 intro l
 induction l with
 | nil => intro s; rfl
 | cons b r ih =>
   intro s
   simp only [run, stp, List.all_cons]
   rw [if_neg h]
   by_cases hp : plain tag b = true
   ·
    rw [if_pos hp, hp]; simpa using ih _
   ·
    rw [if_neg hp, show plain tag b = false by simpa using hp]; rfl
def can (tag n : Int) (l : List Int) : Bool := if n < 0 then false else if tag = 12 then canU n l else l.all (plain tag)
def st0 (n : Int) : St := (n, 0, 0, 0)
theorem run_is (tag n : Int) (l : List Int) (hb : Bytes l) (hn : (l.length : Int) ≤ n) : (run tag (st0 n) l).isSome = can tag n l := by
 unfold can
 rw [if_neg zz3]
 by_cases h : tag = 12
 ·
  subst h; rw [if_pos rfl]; exact run_can _ l n 0 0 (Nat.le_refl _) hb hn
 ·
  rw [if_neg h]; exact run_plain tag h l _
def check (tag : Int) (l : List Int) : Bool := if tag = 12 then valid l.length l else l.all (plain tag)
end Go.Proofs.Ytpfconocipmcjaa.Tx
