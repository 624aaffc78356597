/- What the row of GrammarFront stands on, made small by a program of this session (pack.py). -/
import Derived.Test.YtcfommconnlhgaaCGrammarFront2
import Derived.Test.YtcfommconnlhgaaCGrammarFront3
import Derived.Test.YtcfommconnlhgaaCGrammarFront7
import Derived.Test.YtcfommconnlhgaaCGrammarFront8
namespace Go.Proofs.Ytcfommconnlhgaa.BDat
open RowKit PC YtcfommconnlhgaaW.PrintWords YtcfommconnlhgaaW.PrintLast YtcfommconnlhgaaW.PrintMore
open Bs
open Dt
set_option linter.unusedVariables false
theorem bytesOf_part (s : ByteArray) (a b : Nat) : bytesOf (s.extract a b) = ((bytesOf s).drop a).take (b - a) := by
 simp only [bytesOf, ByteArray.data_extract, Array.toList_extract, List.extract_eq_take_drop, List.map_take, List.map_drop]
theorem bt_part (s : ByteArray) (a b : Nat) (i : Nat) (h : i < b - a) : bt (s.extract a b) (i : Int) = bt s ((a + i : Nat) : Int) := by
 rw [bt_get, bt_get, bytesOf_part, Int.toNat_natCast, Int.toNat_natCast, List.getD_eq_getElem?_getD, List.getD_eq_getElem?_getD, List.getElem?_take_of_lt h, List.getElem?_drop]
theorem at_bt (s : ByteArray) (i : Nat) : Dt.at_ (bytesOf s) i = bt s (i : Int) - 48 := by
 rw [bt_get, Int.toNat_natCast]; rfl
theorem at_dig {s : ByteArray} (h : Digs (bytesOf s)) (i : Nat) (hi : i < s.size) : 0 ≤ bt s (i : Int) - 48 ∧ bt s (i : Int) - 48 ≤ 9 := by
 rw [← at_bt]; exact at_range h (by rw [bytesOf_length]; exact hi)
theorem num_step (k : Nat) (s : ByteArray) (a z i : Int) (h0 : 0 ≤ i) (h1 : i < z) (h2 : i < s.size) (hz : i < 100) (ha : 0 ≤ a ∧ a ≤ 100000) (hb : 0 ≤ bt s i - 48 ∧ bt s i - 48 ≤ 9) :
 when_number.l0 (k + 1) s a z i = when_number.l0 k s (10 * a + (bt s i - 48)) z (i + 1) := by
 rw [when_number.l0, if_pos h1, if_pos h0, if_pos h2, w64 (x := 10 * a) zz4 zz4, Int.emod_eq_of_lt zz4 zz4, w64 zz4 zz4, w64 zz4 zz4]
theorem num_end (k : Nat) (s : ByteArray) (a z i : Int) (h1 : ¬ i < z) : when_number.l0 (k + 1) s a z i = some a := by
 rw [when_number.l0, if_neg h1]
theorem num1 (k : Nat) (s : ByteArray) (h : s.size = 1) (b0 : 0 ≤ bt s 0 - 48 ∧ bt s 0 - 48 ≤ 9) : when_number.f (k + 2) s = some (bt s 0 - 48) := by
 unfold when_number.f
 rw [h, num_step (k + 1) s 0 _ 0 zz4 zz4 zz4 zz4 zz4 b0, num_end _ _ _ _ _ zz4]
 congr 1; omega
theorem num2 (k : Nat) (s : ByteArray) (h : s.size = 2) (b0 : 0 ≤ bt s 0 - 48 ∧ bt s 0 - 48 ≤ 9) (b1 : 0 ≤ bt s 1 - 48 ∧ bt s 1 - 48 ≤ 9) : when_number.f (k + 3) s = some (10 * (bt s 0 - 48) + (bt s 1 - 48)) := by
 unfold when_number.f
 rw [h, num_step (k + 2) s 0 _ 0 zz4 zz4 zz4 zz4 zz4 b0, show (0 : Int) + 1 = 1 from rfl, num_step (k + 1) s _ _ _ zz4 zz4 zz4 zz4 zz4 b1, num_end _ _ _ _ _ zz4]
 congr 1; omega
theorem num4 (k : Nat) (s : ByteArray) (h : s.size = 4) (b0 : 0 ≤ bt s 0 - 48 ∧ bt s 0 - 48 ≤ 9) (b1 : 0 ≤ bt s 1 - 48 ∧ bt s 1 - 48 ≤ 9) (b2 : 0 ≤ bt s 2 - 48 ∧ bt s 2 - 48 ≤ 9) (b3 : 0 ≤ bt s 3 - 48 ∧ bt s 3 - 48 ≤ 9) :
 when_number.f (k + 5) s = some (1000 * (bt s 0 - 48) + 100 * (bt s 1 - 48) + 10 * (bt s 2 - 48) + (bt s 3 - 48)) := by
 unfold when_number.f
 rw [h, num_step (k + 4) s 0 _ 0 zz4 zz4 zz4 zz4 zz4 b0, show (0 : Int) + 1 = 1 from rfl, num_step (k + 3) s _ _ _ zz4 zz4 zz4 zz4 zz4 b1,
  show (1 : Int) + 1 = 2 from rfl, num_step (k + 2) s _ _ _ zz4 zz4 zz4 zz4 zz4 b2, show (2 : Int) + 1 = 3 from rfl, num_step (k + 1) s _ _ _ zz4 zz4 zz4 zz4 zz4 b3, num_end _ _ _ _ _ zz4]
 congr 1; omega
theorem year_eq (k : Nat) (s : ByteArray) (h : Digs (bytesOf s)) (h4 : 4 ≤ s.size) : when_number.f (k + 5) (s.extract 0 4) = some (yr (bytesOf s)) := by
 have e := fun i (hi : i < 4) => bt_part s 0 4 i zz4
 have e0 := e 0 zz4; have e1 := e 1 zz4; have e2 := e 2 zz4; have e3 := e 3 zz4
 simp only [Nat.zero_add] at e0 e1 e2 e3
 have d0 := at_dig h 0 zz4; have d1 := at_dig h 1 zz4; have d2 := at_dig h 2 zz4; have d3 := at_dig h 3 zz4
 rw [← e0] at d0; rw [← e1] at d1; rw [← e2] at d2; rw [← e3] at d3
 rw [num4 k _ (by rw [ByteArray.size_extract]; omega) d0 d1 d2 d3]
 unfold yr
 rw [at_bt, at_bt, at_bt, at_bt, ← e0, ← e1, ← e2, ← e3]; rfl
theorem pair_eq (k : Nat) (s : ByteArray) (h : Digs (bytesOf s)) (p q : Nat) (hq : q = p + 2) (hs : q ≤ s.size) : when_number.f (k + 3) (s.extract p q) = some (Dt.two (bytesOf s) p) := by
 subst hq
 have e0 := bt_part s p (p + 2) 0 zz4; have e1 := bt_part s p (p + 2) 1 zz4
 have d0 := at_dig h p zz4; have d1 := at_dig h (p + 1) zz4
 rw [Nat.add_zero p] at e0
 rw [← e0] at d0; rw [← e1] at d1
 rw [num2 k _ (by rw [ByteArray.size_extract]; omega) d0 d1]
 unfold Dt.two
 rw [at_bt, at_bt, ← e0, ← e1]; rfl
theorem one_eq (k : Nat) (s : ByteArray) (h : Digs (bytesOf s)) (p q : Nat) (hq : q = p + 1) (hs : q ≤ s.size) : when_number.f (k + 2) (s.extract p q) = some (Dt.at_ (bytesOf s) p) := by
 subst hq
 have e0 := bt_part s p (p + 1) 0 zz4
 have d0 := at_dig h p zz4
 rw [Nat.add_zero p] at e0
 rw [← e0] at d0
 rw [num1 k _ (by rw [ByteArray.size_extract]; omega) d0, at_bt, ← e0]; rfl
theorem span_eq (k : Nat) (s : ByteArray) (h : Digs (bytesOf s)) (p : Nat) (hp : p = 6 → 6 ≤ s.size) : when_span.f (k + 5) s (p : Int) = some (span (bytesOf s) p) := by
 unfold when_span.f span
 by_cases h4 : p = 4
 ·
  rw [if_pos zz4, if_pos h4]
 rw [if_neg zz4, if_neg h4]
 by_cases h6 : p = 6
 ·
  have := hp h6
  rw [if_pos zz4, if_pos h6, if_pos zz4, if_pos zz4, year_eq k s h zz4]
  simp only [Option.bind_some]
  rw [if_pos zz4, if_pos zz4, pair_eq (k + 2) s h 4 6 rfl zz4]
  rfl
 rw [if_neg zz4, if_neg h6]
 by_cases h8 : p = 8
 ·
  rw [if_pos zz4, if_pos h8]
 ·
  rw [if_neg zz4, if_neg h8]
theorem mask_eq : ∀ n : Nat, n < 15 → 4 < n → Go.bits .andNot .i64 (wrap64 ((n : Int) - 1)) 1 = if n % 2 = 1 then ((n - 1 : Nat) : Int) else ((n - 2 : Nat) : Int) := by decide +kernel
theorem tens {x : Int} (h0 : 0 ≤ x) (h1 : x ≤ 1000) : wrap64 (Int.tdiv x 10) = x / 10 := by
 rw [Int.tdiv_eq_ediv_of_nonneg h0, w64 zz4 zz4]
theorem span_range (D : List Int) (p : Nat) : 0 ≤ (span D p).1 ∧ (span D p).1 ≤ 1 ∧ 0 ≤ (span D p).2 ∧ (span D p).2 ≤ 59 := by
 have := days_range (yr D) (Dt.two D 4)
 unfold span
 repeat' split
 all_goals (simp only; omega)
theorem and_dec (a b : Prop) [Decidable a] [Decidable b] : (if a then some (decide b) else some false) = some (decide a && decide b) := by
 by_cases h : a <;> simp [h]
theorem may_eq (k : Nat) (s : ByteArray) (h : Digs (bytesOf s)) (hs : s.size ≤ 14) : when_may.f (k + 5) s = some (may (bytesOf s)) := by
 unfold when_may.f may
 rw [bytesOf_length]
 by_cases h4 : s.size ≤ 4
 ·
  rw [if_pos zz4, if_pos h4]
 rw [if_neg zz4, if_neg h4, mask_eq s.size zz4 zz4]
 by_cases ho : s.size % 2 = 1
 ·
  have hr := span_range (bytesOf s) (s.size - 1)
  rw [if_pos ho, if_pos ho, span_eq k s h (s.size - 1) zz4]
  simp only [Option.bind_some]
  rw [if_pos zz4, if_pos zz4, if_pos zz4, Int.toNat_natCast, one_eq (k + 3) s h (s.size - 1) s.size zz4 zz4]
  simp only [Option.bind_some]
  rw [tens zz4 zz4, tens zz4 zz4, and_dec]
 ·
  have hr := span_range (bytesOf s) (s.size - 2)
  rw [if_neg ho, if_neg ho, span_eq k s h (s.size - 2) zz4]
  simp only [Option.bind_some]
  rw [if_neg zz4, if_pos zz4, if_pos zz4, Int.toNat_natCast, pair_eq (k + 2) s h (s.size - 2) s.size zz4 zz4]
  simp only [Option.bind_some]
  rw [and_dec]
theorem nine : bytesOf (⟨#[57]⟩ : ByteArray) = [57] := by decide
theorem pad_nine (D : List Int) (h : D.length < 4) : pad (D ++ [57]) = pad D := by
 unfold pad
 rw [List.append_assoc, List.length_append]
 congr 1
 rw [show 4 - D.length = (4 - (D.length + [(57 : Int)].length)) + 1 by simp; omega, List.replicate_succ]; rfl
theorem late_l0 : ∀ (d k : Nat) (s : ByteArray), s.size + d = 4 ∨ (d = 0 ∧ 4 ≤ s.size) → s.size ≤ 14 → Digs (bytesOf s) → when_late.l0 (k + d + 6) s = some (late (bytesOf s)) := by
 intro d
 induction d with
 | zero =>
   intro k s hd hs h
   rw [when_late.l0, if_neg zz4, if_pos zz4, if_pos zz4, year_eq k s h zz4]
   simp only [Option.bind_some]
   unfold late
   rw [pad_full _ (by rw [bytesOf_length]; omega)]
 | succ d ih =>
   intro k s hd hs h
   rw [show k + (d + 1) + 6 = (k + d + 6) + 1 by omega, when_late.l0, if_pos zz4, if_pos zz4, ih k _ (by rw [ByteArray.size_append]; left; show s.size + 1 + d = 4; omega) (by rw [ByteArray.size_append]; show s.size + 1 ≤ 14; omega) (by rw [bytesOf_append, nine]; exact h.append (fun x hx => by simp at hx; unfold Dig; omega))]
   unfold late
   rw [bytesOf_append, nine, pad_nine _ (by rw [bytesOf_length]; omega)]
theorem late_eq (k : Nat) (s : ByteArray) (hs : s.size ≤ 14) (h : Digs (bytesOf s)) : when_late.f (k + 10) s = some (late (bytesOf s)) := by
 unfold when_late.f
 by_cases h4 : s.size ≤ 4
 ·
  have := late_l0 (4 - s.size) (k + s.size) s zz4 hs h
  rwa [show k + s.size + (4 - s.size) + 6 = k + 10 by omega] at this
 ·
  exact late_l0 0 (k + 4) s zz4 hs h
def enc (u : Bool) : Option St → ByteArray × Int × Bool × Bool
 | some s => (strOfNums s.1, s.2, u, true)
 | none => ((⟨#[]⟩ : ByteArray), 0, false, false)
theorem digs_bytes {L : List Int} (h : Digs L) : Bytes L := fun b hb => by have := h b hb; unfold Dig at this; omega
theorem nums_append (a b : List Int) (ha : Bytes a) (hb : Bytes b) : strOfNums a ++ strOfNums b = strOfNums (a ++ b) := by
 refine bytesOf_inj ?_
 rw [bytesOf_append, bytesOf_nums _ ha, bytesOf_nums _ hb, bytesOf_nums _ (fun x hx => (List.mem_append.1 hx).elim (ha x) (hb x))]
theorem nums_size (L : List Int) (h : Bytes L) : (strOfNums L).size = L.length := by
 rw [← bytesOf_length, bytesOf_nums _ h]
theorem nums_empty (L : List Int) (h : Bytes L) : ((strOfNums L).toList == ([] : List UInt8)) = L.isEmpty := by
 have := toList_beq (strOfNums L) (⟨#[]⟩ : ByteArray)
 rw [show (⟨#[]⟩ : ByteArray).toList = ([] : List UInt8) from by decide +kernel, bytesOf_nums _ h, show bytesOf (⟨#[]⟩ : ByteArray) = [] from rfl] at this
 rw [this]; cases L <;> rfl
theorem cen_nums (b : Int) : strOfNums (cen b) = if b ≥ 53 then (⟨#[49, 57]⟩ : ByteArray) else (⟨#[50, 48]⟩ : ByteArray) := by
 unfold cen; split <;> decide +kernel
theorem push_j2 (k : Nat) (b : Int) (L : List Int) (n : Int) (u : Bool) (h : Digs L) (hb : Dig b) (hl : L.length ≤ 13) :
 when_State_Push.j2 (k + 12) b (strOfNums L) n u = some (enc u (if (may (L ++ [b]) && (u || late (L ++ [b]))) = true then some (L ++ [b], n) else none)) := by
 have h1 : Digs [b] := fun x hx => by simp at hx; rw [hx]; exact hb
 have h2 : Digs (L ++ [b]) := h.append h1
 have hsz : (strOfNums (L ++ [b])).size = L.length + 1 := by rw [nums_size _ (digs_bytes h2)]; simp
 rw [when_State_Push.j2]
 simp only [Option.bind_some]
 rw [if_pos (by rw [nums_size _ (digs_bytes h), nums_size _ (digs_bytes h1)]; simp; omega), nums_append _ _ (digs_bytes h) (digs_bytes h1),
  may_eq (k + 6) _ (by rw [bytesOf_nums _ (digs_bytes h2)]; exact h2) zz4, late_eq (k + 1) _ zz4 (by rw [bytesOf_nums _ (digs_bytes h2)]; exact h2), bytesOf_nums _ (digs_bytes h2)]
 simp only [Option.bind_some]
 cases may (L ++ [b]) <;> cases u <;> cases late (L ++ [b]) <;> rfl
theorem push_eq (k : Nat) (u : Bool) (L : List Int) (n b : Int) (h : Digs L) (hl : n - 1 ≠ 0 → L.length ≤ 13) (hn : -9223372036854775807 ≤ n ∧ n ≤ 9223372036854775807) :
 when_State_Push.f (k + 14) (strOfNums L) n u b = some (enc u (stp u (L, n) b)) := by
 unfold when_State_Push.f stp
 simp only
 rw [w64 (x := n - 1) zz4 zz4]
 by_cases h0 : n - 1 = 0
 ·
  rw [if_pos h0, if_pos h0]
  split <;> rfl
 rw [if_neg h0, if_neg h0]
 by_cases h1 : b < 48
 ·
  rw [if_pos h1, if_pos (.inl h1), when_State_Push.j0, if_pos rfl]; rfl
 rw [if_neg h1]
 by_cases h2 : b > 57
 ·
  rw [if_pos (.inr h2), show decide (b > 57) = true by simpa using h2, when_State_Push.j0, if_pos rfl]; rfl
 rw [if_neg zz4, show decide (b > 57) = false by simpa using h2, when_State_Push.j0, if_neg zz8, nums_empty _ (digs_bytes h)]
 have hb : Dig b := by unfold Dig; omega
 have hj1 : ∀ x : Bool, when_State_Push.j1 (k + 13) b x (strOfNums L) (n - 1) u = when_State_Push.j2 (k + 12) b (strOfNums (if x = true then cen b else L)) (n - 1) u := by
  intro x
  rw [when_State_Push.j1]
  cases x with
  | false => rw [if_neg zz8, if_neg zz8]
  | true =>
    rw [if_pos rfl, if_pos rfl, cen_nums]
    split <;> rfl
 have hj : (if u = true then when_State_Push.j1 (k + 13) b L.isEmpty (strOfNums L) (n - 1) u else when_State_Push.j1 (k + 13) b false (strOfNums L) (n - 1) u) = when_State_Push.j2 (k + 12) b (strOfNums (if (u && L.isEmpty) = true then cen b else L)) (n - 1) u := by
  cases u with
  | false => rw [if_neg zz8, hj1]; rfl
  | true => rw [if_pos rfl, hj1]; rfl
 rw [hj]
 refine push_j2 k b _ (n - 1) u ?_ hb ?_
 ·
  split
  ·
   exact cen_digs b
  ·
   exact h
 ·
  split
  ·
   rw [cen_len]; omega
  ·
   exact hl h0
def lenOf (u : Bool) : Int := if u = true then 13 else 15
structure Runs (u : Bool) (s : ByteArray) (ok : Bool) (i : Nat) (D : ByteArray) (n : Int) (u' : Bool) : Prop where
 ok_ : ok = (run u ([], lenOf u) ((bytesOf s).take i)).isSome
 st_ : ok = true → u' = u ∧ ∃ L, D = strOfNums L ∧ run u ([], lenOf u) ((bytesOf s).take i) = some (L, n)
theorem Runs.start (u : Bool) (s : ByteArray) : Runs u s true 0 (⟨#[]⟩ : ByteArray) (lenOf u) u := ⟨rfl, fun _ => ⟨rfl, [], rfl, rfl⟩⟩
end Go.Proofs.Ytcfommconnlhgaa.BDat
namespace Go.Proofs.Ytcfommconnlhgaa.Tx
def Bytes (l : List Int) : Prop := ∀ b, b ∈ l → 0 ≤ b ∧ b < 256
theorem Bytes.tail {a : Int} {l : List Int} (h : Bytes (a :: l)) : Bytes l := fun b hb => h b (by simp [hb])
theorem Bytes.drop {l : List Int} (h : Bytes l) (n : Nat) : Bytes (l.drop n) := fun b hb => h b (List.mem_of_mem_drop hb)
def first (b : Int) : Option (Int × Int × Int) :=
 if b < 128 then some (0, 128, 191)
 else if b < 194 ∨ b > 244 then none
 else if b < 224 then some (1, 128, 191)
 else if b = 224 then some (2, 160, 191)
 else if b = 237 then some (2, 128, 159)
 else if b < 240 then some (2, 128, 191)
 else if b = 240 then some (3, 144, 191)
 else if b = 244 then some (3, 128, 143)
 else some (3, 128, 191)
abbrev St := Int × Int × Int × Int
def u8 (s : St) (b : Int) : Option St :=
 if s.2.1 > 0 then (if b < s.2.2.1 ∨ b > s.2.2.2 then none else some (s.1 - 1, s.2.1 - 1, 128, 191))
 else match first b with
  | none => none
  | some (m, lo, hi) => if m > s.1 - 1 then none else some (s.1 - 1, m, lo, hi)
def printable (b : Int) : Bool :=
 decide (65 ≤ b ∧ b ≤ 90) || decide (97 ≤ b ∧ b ≤ 122) || decide (48 ≤ b ∧ b ≤ 57) || b == 32 || b == 39 || b == 40 || b == 41 || b == 43 || b == 44 || b == 45 || b == 46 || b == 47 || b == 58 || b == 61 || b == 63
def plain (tag b : Int) : Bool := if tag = 22 then decide (b < 128) else if tag = 19 then printable b else true
def stp (tag : Int) (s : St) (b : Int) : Option St :=
 if tag = 12 then u8 s b else if plain tag b = true then some (s.1 - 1, s.2.1, s.2.2.1, s.2.2.2) else none
def run (tag : Int) : St → List Int → Option St
 | s, [] => some s
 | s, b :: r => match stp tag s b with
   | none => none
   | some s' => run tag s' r
def cont (b : Int) : Bool := decide (128 ≤ b) && decide (b ≤ 191)
def ch2 (a b : Int) : Bool := cont b && decide (128 ≤ 64 * (a - 192) + b - 128)
def ch3 (a b c : Int) : Bool := cont b && cont c && decide (2048 ≤ 64 * (64 * (a - 224) + b - 128) + c - 128) && !(decide (55296 ≤ 64 * (64 * (a - 224) + b - 128) + c - 128) && decide (64 * (64 * (a - 224) + b - 128) + c - 128 ≤ 57343))
def ch4 (a b c d : Int) : Bool := cont b && cont c && cont d && decide (65536 ≤ 64 * (64 * (64 * (a - 240) + b - 128) + c - 128) + d - 128) && decide (64 * (64 * (64 * (a - 240) + b - 128) + c - 128) + d - 128 ≤ 1114111)
def chr : List Int → Nat
 | [] => 0
 | a :: r =>
   if a < 128 then 1
   else if 192 ≤ a ∧ a < 224 then (match r with
    | b :: _ => if ch2 a b = true then 2 else 0
    | _ => 0)
   else if 224 ≤ a ∧ a < 240 then (match r with
    | b :: c :: _ => if ch3 a b c = true then 3 else 0
    | _ => 0)
   else if 240 ≤ a ∧ a < 248 then (match r with
    | b :: c :: d :: _ => if ch4 a b c d = true then 4 else 0
    | _ => 0)
   else 0
def rep (k : Nat) (b : Int) : List Int := List.replicate k b
def ends (t : List Int) (k : Nat) : Bool := chr (t ++ rep k 128) == t.length + k || chr (t ++ rep k 191) == t.length + k
end Go.Proofs.Ytcfommconnlhgaa.Tx
namespace Go.Proofs.Ytcfommconnlhgaa.Tx
def st0 (n : Int) : St := (n, 0, 0, 0)
end Go.Proofs.Ytcfommconnlhgaa.Tx
