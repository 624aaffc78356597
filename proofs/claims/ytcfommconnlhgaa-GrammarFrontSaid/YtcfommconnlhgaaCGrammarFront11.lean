/- What the row of GrammarFront stands on, made small by a program of this session (pack.py). -/
import Derived.Test.YtcfommconnlhgaaCGrammarFront2
import Derived.Test.YtcfommconnlhgaaCGrammarFront3
import Derived.Test.YtcfommconnlhgaaCGrammarFront9
import Derived.Test.YtcfommconnlhgaaCGrammarFront10
namespace Go.Proofs.Ytcfommconnlhgaa.BTxt
open RowKit PC YtcfommconnlhgaaW.PrintWords YtcfommconnlhgaaW.PrintLast YtcfommconnlhgaaW.PrintMore
open Bs
open Tx (St first u8 stp run plain printable st0)
set_option linter.unusedVariables false
def enc (tag : Int) : Option St → Int × Int × Int × Int × Int × Bool
 | some s => (tag, s.1, s.2.1, s.2.2.1, s.2.2.2, true)
 | none => (0, 0, 0, 0, 0, false)
theorem start_eq (tag n : Int) : text_Start.f tag n = some (enc tag (if n < 0 then none else some (st0 n))) := by
 unfold text_Start.f
 split <;> rfl
theorem first_eq (k : Nat) (b : Int) : text_first.f (k + 1) b = some (match first b with
 | some (m, lo, hi) => (m, lo, hi, true)
 | none => (0, 0, 0, false)) := by
 unfold text_first.f first
 by_cases h1 : b < 128
 ·
  rw [if_pos h1, if_pos h1]
 rw [if_neg h1, if_neg h1]
 by_cases h2 : b < 194
 ·
  rw [if_pos h2, if_pos (.inl h2), text_first.j0, if_pos rfl]
 rw [if_neg h2]
 by_cases h3 : b > 244
 ·
  rw [if_pos (.inr h3), show decide (b > 244) = true by simpa using h3, text_first.j0, if_pos rfl]
 rw [if_neg zz4, show decide (b > 244) = false by simpa using h3, text_first.j0, if_neg zz8]
 split
 ·
  rfl
 split
 ·
  rfl
 split
 ·
  rfl
 split
 ·
  rfl
 split
 ·
  rfl
 split
 ·
  rfl
 ·
  rfl
theorem first_range {b m lo hi : Int} (h : first b = some (m, lo, hi)) : 0 ≤ m ∧ m ≤ 3 := by
 unfold first at h
 repeat' (split at h)
 all_goals (first | (cases h; done) | (simp only [Option.some.injEq, Prod.mk.injEq] at h; omega))
theorem utf8_eq (k : Nat) (tag l m lo hi b : Int) (hm : 0 ≤ m ∧ m ≤ 3) : text_State_utf8.f (k + 1) tag (l - 1) m lo hi b = some (enc tag (u8 (l, m, lo, hi) b)) := by
 unfold text_State_utf8.f u8
 by_cases h : m > 0
 ·
  rw [if_pos h, if_pos h]
  simp only
  by_cases h1 : b < lo
  ·
   rw [if_pos h1, if_pos (.inl h1), text_State_utf8.j0, if_pos rfl]; rfl
  rw [if_neg h1]
  by_cases h2 : b > hi
  ·
   rw [if_pos (.inr h2), show decide (b > hi) = true by simpa using h2, text_State_utf8.j0, if_pos rfl]; rfl
  ·
   rw [if_neg zz4, show decide (b > hi) = false by simpa using h2, text_State_utf8.j0, if_neg zz8, w64 (x := m - 1) zz4 zz4]; rfl
 ·
  rw [if_neg h, if_neg h, first_eq]
  simp only [Option.bind_some]
  cases hf : first b with
  | none => rfl
  | some p =>
    obtain ⟨m', lo', hi'⟩ := p
    simp only [if_true]
    split <;> rfl
theorem index_printable (b : Int) (h0 : 0 ≤ b) (h1 : b < 256) : (decide (Lib.indexByte (⟨#[65, 66, 67, 68, 69, 70, 71, 72, 73, 74, 75, 76, 77, 78, 79, 80, 81, 82, 83, 84, 85, 86, 87, 88, 89, 90, 97, 98, 99, 100, 101, 102, 103, 104, 105, 106, 107, 108, 109, 110, 111, 112, 113, 114, 115, 116, 117, 118, 119, 120, 121, 122, 48, 49, 50, 51, 52, 53, 54, 55, 56, 57, 32, 39, 40, 41, 43, 44, 45, 46, 47, 58, 61, 63]⟩ : ByteArray).data.toList b.toNat.toUInt8 ≥ 0)) = printable b := by
 have : ∀ n : Nat, n < 256 → (decide (Lib.indexByte (⟨#[65, 66, 67, 68, 69, 70, 71, 72, 73, 74, 75, 76, 77, 78, 79, 80, 81, 82, 83, 84, 85, 86, 87, 88, 89, 90, 97, 98, 99, 100, 101, 102, 103, 104, 105, 106, 107, 108, 109, 110, 111, 112, 113, 114, 115, 116, 117, 118, 119, 120, 121, 122, 48, 49, 50, 51, 52, 53, 54, 55, 56, 57, 32, 39, 40, 41, 43, 44, 45, 46, 47, 58, 61, 63]⟩ : ByteArray).data.toList n.toUInt8 ≥ 0)) = printable (n : Int) := by decide +kernel
 have := this b.toNat zz4
 rwa [Int.toNat_of_nonneg h0] at this
def Ok (s : St) : Prop := -9223372036854775808 < s.1 ∧ s.1 ≤ 9223372036854775807 ∧ 0 ≤ s.2.1 ∧ s.2.1 ≤ 3
theorem push_eq (k : Nat) (tag : Int) (s : St) (b : Int) (hs : Ok s) (h0 : 0 ≤ b) (h1 : b < 256) : text_State_Push.f (k + 2) tag s.1 s.2.1 s.2.2.1 s.2.2.2 b = some (enc tag (stp tag s b)) := by
 obtain ⟨l, m, lo, hi⟩ := s
 obtain ⟨g1, g2, g3, g4⟩ := hs
 simp only at g1 g2 g3 g4
 unfold text_State_Push.f stp
 simp only
 rw [w64 (x := l - 1) zz4 zz4]
 by_cases h12 : tag = 12
 ·
  rw [if_pos h12, if_pos h12, utf8_eq (k + 1) tag l m lo hi b ⟨g3, g4⟩]
  simp only [Option.bind_some]
 rw [if_neg h12, if_neg h12]
 by_cases h19 : tag = 19
 ·
  rw [if_pos h19]
  unfold strings_IndexByte.f
  simp only [Option.bind_some]
  have := index_printable b h0 h1
  have hp : plain tag b = printable b := by unfold plain; rw [if_neg zz4, if_pos h19]
  rw [hp, ← this]
  by_cases hi : Lib.indexByte (⟨#[65, 66, 67, 68, 69, 70, 71, 72, 73, 74, 75, 76, 77, 78, 79, 80, 81, 82, 83, 84, 85, 86, 87, 88, 89, 90, 97, 98, 99, 100, 101, 102, 103, 104, 105, 106, 107, 108, 109, 110, 111, 112, 113, 114, 115, 116, 117, 118, 119, 120, 121, 122, 48, 49, 50, 51, 52, 53, 54, 55, 56, 57, 32, 39, 40, 41, 43, 44, 45, 46, 47, 58, 61, 63]⟩ : ByteArray).data.toList b.toNat.toUInt8 ≥ 0
  ·
   rw [if_pos hi, if_pos (by simpa using hi)]; rfl
  ·
   rw [if_neg hi, if_neg (by simpa using hi)]; rfl
 rw [if_neg h19]
 by_cases h22 : tag = 22
 ·
  have hp : plain tag b = decide (b < 128) := by unfold plain; rw [if_pos h22]
  rw [if_pos h22, hp]
  by_cases hb : b < 128
  ·
   rw [if_pos hb, if_pos (by simpa using hb)]; rfl
  ·
   rw [if_neg hb, if_neg (by simpa using hb)]; rfl
 ·
  have hp : plain tag b = true := by unfold plain; rw [if_neg h22, if_neg h19]
  rw [if_neg h22, hp, if_pos rfl]; rfl
theorem stp_ok {tag : Int} {s s' : St} {b : Int} (h : stp tag s b = some s') (hm : 0 ≤ s.2.1 ∧ s.2.1 ≤ 3) : s'.1 = s.1 - 1 ∧ 0 ≤ s'.2.1 ∧ s'.2.1 ≤ 3 := by
 unfold stp at h
 split at h
 ·
  unfold u8 at h
  split at h
  ·
   split at h
   ·
    cases h
   ·
    cases h; exact ⟨rfl, by simp only; omega, by simp only; omega⟩
  ·
   split at h
   ·
    cases h
   ·
    rename_i m lo hi hf
    have := first_range hf
    split at h
    ·
     cases h
    ·
     cases h; exact ⟨rfl, this.1, this.2⟩
 ·
  split at h
  ·
   cases h; exact ⟨rfl, hm.1, hm.2⟩
  ·
   cases h
structure Runs (tag : Int) (s : ByteArray) (ok : Bool) (i : Nat) (t l m lo hi : Int) (N : Int) : Prop where
 ok_ : ok = (run tag (st0 N) ((bytesOf s).take i)).isSome
 st_ : ok = true → t = tag ∧ run tag (st0 N) ((bytesOf s).take i) = some (l, m, lo, hi) ∧ l = N - i ∧ 0 ≤ m ∧ m ≤ 3
theorem Runs.start (tag : Int) (s : ByteArray) (N : Int) (lo hi : Int) : Runs tag s true 0 tag N 0 0 0 N := ⟨rfl, fun _ => ⟨rfl, rfl, zz4, zz4, zz4⟩⟩
end Go.Proofs.Ytcfommconnlhgaa.BTxt
namespace Go.Proofs.Ytcfommconnlhgaa.Idm
def cb (c : Bool) : Int := if c then 1 else 0
def grp (t : Int) : List Int :=
 if t < 128 then [t]
 else if t < 16384 then [128 + t / 128, t % 128]
 else if t < 2097152 then [128 + t / 128 / 128, 128 + t / 128 % 128, t % 128]
 else [128 + t / 128 / 128 / 128, 128 + t / 128 / 128 % 128, 128 + t / 128 % 128, t % 128]
def enc (cls tag : Int) (cons : Bool) : List Int :=
 if tag < 31 then [64 * cls + 32 * cb cons + tag] else (64 * cls + 32 * cb cons + 31) :: grp tag
def gT (t : Int) (n : Nat) (first : Bool) : List Int → Nat × Int × Int
 | [] => (n, 0, 2)
 | b :: r =>
   if (first && b == 128) = true then (n, 0, 3)
   else if 128 * t + b % 128 > 268435455 then (n, 0, 3)
   else if b ≥ 128 then gT (128 * t + b % 128) (n + 1) false r
   else if 128 * t + b % 128 < 31 then (n, 0, 3)
   else (n + 1, 128 * t + b % 128, 0)
def idg : List Int → Int × Int × Bool × Nat × Int
 | [] => (0, 0, false, 0, 2)
 | b :: r =>
   if b % 32 < 31 then (b / 64, b % 32, (b / 32 % 2 == 1), 1, 0)
   else if (gT 0 1 true r).2.2 = 0 then (b / 64, (gT 0 1 true r).2.1, (b / 32 % 2 == 1), (gT 0 1 true r).1, 0)
   else (0, 0, false, (gT 0 1 true r).1, (gT 0 1 true r).2.2)
def Bytes (l : List Int) : Prop := ∀ b, b ∈ l → 0 ≤ b ∧ b < 256
def Valid (cls tag : Int) : Prop := 0 ≤ cls ∧ cls ≤ 3 ∧ 0 ≤ tag ∧ tag ≤ 268435455
theorem gT_cons (t : Int) (n : Nat) (f : Bool) (b : Int) (r : List Int) : gT t n f (b :: r) =
 if (f && b == 128) = true then (n, 0, 3)
 else if 128 * t + b % 128 > 268435455 then (n, 0, 3)
 else if b ≥ 128 then gT (128 * t + b % 128) (n + 1) false r
 else if 128 * t + b % 128 < 31 then (n, 0, 3)
 else (n + 1, 128 * t + b % 128, 0) := rfl
theorem gT_got : ∀ (l : List Int) (t : Int) (n : Nat) (f : Bool) (n' : Nat) (t' : Int), Bytes l → 0 ≤ t → (f = true → t = 0) → (f = false → 0 < t) → gT t n f l = (n', t', 0) →
 31 ≤ t' ∧ t' ≤ 268435455 ∧ ∃ j, n' = n + j ∧ 1 ≤ j ∧ j ≤ l.length ∧
  (j = 1 ∧ t' = 128 * t + l.getD 0 0 ∧ 0 ≤ l.getD 0 0 ∧ l.getD 0 0 < 128 ∨ 1 < j ∧ 128 ≤ l.getD 0 0 ∧ l.getD 0 0 < 256 ∧ (f = true → l.getD 0 0 ≠ 128) ∧
   gT (128 * t + (l.getD 0 0 - 128)) (n + 1) false (l.drop 1) = (n', t', 0)) := by
 intro l
 induction l with
 | nil => intro t n f n' t' _ _ _ _ h; simp [gT] at h
 | cons b r ih =>
   intro t n f n' t' hb h0 hf hf' h
   have hb0 := hb b zz19
   rw [gT_cons] at h
   split at h
   ·
    simp at h
   rename_i hc1
   split at h
   ·
    simp at h
   split at h
   ·
    rename_i hc2 hc3
    have hne : f = true → b ≠ 128 := by
     intro hft hbe
     exact hc1 (by simp [hft, hbe])
    have ht1 : 0 < 128 * t + b % 128 := by
     cases f
     ·
      have := hf' rfl; omega
     ·
      have := hne rfl; omega
    obtain ⟨i1, i2, j, i3, i4, i5, i6⟩ := ih (128 * t + b % 128) (n + 1) false n' t' (fun x hx => hb x (by simp [hx])) zz4 zz19 (fun _ => ht1) h
    refine ⟨i1, i2, j + 1, zz4, zz4, zz29, .inr ⟨zz4, by simpa using hc3, by simpa using hb0.2, by simpa using hne, ?_⟩⟩
    simpa [show b % 128 = b - 128 by omega] using h
   ·
    split at h
    ·
     simp at h
    ·
     simp only [Prod.mk.injEq, and_true] at h
     obtain ⟨rfl, rfl⟩ := h
     exact ⟨zz4, zz4, 1, rfl, zz4, zz19, .inl ⟨rfl, zz29, by simpa using hb0.1, zz29⟩⟩
theorem getD_drop (l : List Int) (i j : Nat) : (l.drop i).getD j 0 = l.getD (i + j) 0 := by simp [List.getD_eq_getElem?_getD, List.getElem?_drop]
theorem take_get (l : List Int) (h : 0 < l.length) (n : Nat) : l.take (n + 1) = l.getD 0 0 :: (l.drop 1).take n := by
 cases l with
 | nil => simp at h
 | cons a r => simp
theorem gT_grp_back (l : List Int) (n' : Nat) (t : Int) (hb : Bytes l) (h : gT 0 1 true l = (n', t, 0)) : 31 ≤ t ∧ t ≤ 268435455 ∧ 2 ≤ n' ∧ n' ≤ l.length + 1 ∧ grp t = l.take (n' - 1) := by
 obtain ⟨g1, g2, j, rfl, g3, g4, g5⟩ := gT_got l 0 1 true n' t hb zz4 (fun _ => rfl) zz19 h
 refine ⟨g1, g2, zz4, zz4, ?_⟩
 have hd : ∀ i, Bytes (l.drop i) := fun i x hx => hb x (List.mem_of_mem_drop hx)
 have lt1 : 0 < l.length := by omega
 rcases g5 with ⟨rfl, e, e1, e2⟩ | ⟨k1, k2, k3, k4, k5⟩
 ·
  rw [show 1 + 1 - 1 = 0 + 1 from rfl, take_get l lt1]
  unfold grp
  rw [if_pos zz4]
  simp only [List.take_zero, List.cons.injEq, and_true]; omega
 have k4 := k4 rfl
 obtain ⟨_, _, j2, w2, m3, m4, m5⟩ := gT_got (l.drop 1) _ 2 false _ t (hd 1) zz4 zz19 (fun _ => by omega) k5
 rw [List.length_drop] at m4
 rw [getD_drop] at m5
 obtain ⟨q, rfl⟩ : ∃ q, j = q + 2 := ⟨j - 2, zz4⟩
 obtain rfl : j2 = q + 1 := by omega
 rcases m5 with ⟨m5, e, e1, e2⟩ | ⟨p1, p2, p3, _, p5⟩
 ·
  obtain rfl : q = 0 := by omega
  rw [show 1 + (0 + 2) - 1 = 1 + 1 from rfl, take_get l lt1, show (1 : Nat) = 0 + 1 from rfl, take_get (l.drop 1) zz29, getD_drop]
  unfold grp
  rw [if_neg zz4, if_pos zz4]
  simp only [List.take_zero, List.cons.injEq, and_true]
  exact ⟨zz4, by simp at *; omega⟩
 rw [List.drop_drop] at p5
 obtain ⟨_, _, j3, w3, r3, r4, r5⟩ := gT_got (l.drop (1 + 1)) _ 3 false _ t (hd 2) zz4 zz19 (fun _ => by omega) p5
 rw [List.length_drop] at r4
 rw [getD_drop] at r5
 obtain ⟨u, rfl⟩ : ∃ u, q = u + 1 := ⟨q - 1, zz4⟩
 obtain rfl : j3 = u + 1 := by omega
 rcases r5 with ⟨r5, e, e1, e2⟩ | ⟨s1, s2, s3, _, s5⟩
 ·
  obtain rfl : u = 0 := by omega
  rw [show 1 + (0 + 1 + 2) - 1 = 2 + 1 from rfl, take_get l lt1, show (2 : Nat) = 1 + 1 from rfl, take_get (l.drop 1) zz29, List.drop_drop, show (1 : Nat) = 0 + 1 from rfl, take_get (l.drop (0 + 1 + (0 + 1))) zz29, getD_drop, getD_drop]
  unfold grp
  simp at *
  rw [if_neg zz4, if_neg zz4, if_pos zz4]
  simp only [List.cons.injEq, and_true]
  exact ⟨zz4, zz4, zz4⟩
 rw [List.drop_drop] at s5
 obtain ⟨_, _, j4, w4, x3, x4, x5⟩ := gT_got (l.drop (1 + 1 + 1)) _ 4 false _ t (hd 3) zz4 zz19 (fun _ => by omega) s5
 rw [List.length_drop] at x4
 rw [getD_drop] at x5
 obtain ⟨v, rfl⟩ : ∃ v, u = v + 1 := ⟨u - 1, zz4⟩
 obtain rfl : j4 = v + 1 := by omega
 rcases x5 with ⟨x5, e, e1, e2⟩ | ⟨y1, y2, y3, _, y5⟩
 ·
  obtain rfl : v = 0 := by omega
  rw [show 1 + (0 + 1 + 1 + 2) - 1 = 3 + 1 from rfl, take_get l lt1, show (3 : Nat) = 2 + 1 from rfl, take_get (l.drop 1) zz29, List.drop_drop, show (2 : Nat) = 1 + 1 from rfl, take_get (l.drop _) zz29, List.drop_drop, show (1 : Nat) = 0 + 1 from rfl, take_get (l.drop _) zz29, getD_drop, getD_drop, getD_drop]
  unfold grp
  simp at *
  rw [if_neg zz4, if_neg zz4, if_neg zz4]
  simp only [List.cons.injEq, and_true]
  exact ⟨zz4, zz4, zz4, zz4⟩
 ·
  rw [List.drop_drop] at y5
  obtain ⟨_, _, j5, w5, z3, z4, z5⟩ := gT_got (l.drop (1 + 1 + 1 + 1)) _ 5 false _ t (hd 4) zz4 zz19 (fun _ => by omega) y5
  rcases z5 with ⟨_, e, e1, e2⟩ | ⟨_, z6, _, _, z7⟩
  ·
   simp at *; omega
  ·
   obtain ⟨_, hz, _⟩ := gT_got _ _ _ _ _ _ (fun x hx => hd 4 x (List.mem_of_mem_drop hx)) (by simp at *; omega) zz19 (fun _ => by simp at *; omega) z7
   cases hr : l.drop (1 + 1 + 1 + 1) with
   | nil => rw [hr] at z6; simp at z6
   | cons b r =>
     rw [hr] at y5
     rw [gT_cons] at y5
     rw [if_neg zz19, if_pos (by simp at *; omega)] at y5
     simp at y5
theorem idg_back (l : List Int) (cls tag : Int) (cons : Bool) (n : Nat) (hb : Bytes l) (h : idg l = (cls, tag, cons, n, 0)) :
 Valid cls tag ∧ 1 ≤ n ∧ n ≤ l.length ∧ enc cls tag cons = l.take n := by
 cases l with
 | nil => simp [idg] at h
 | cons b r =>
   have hb0 := hb b zz19
   have hr : Bytes r := fun x hx => hb x (by simp [hx])
   have hcb : cb (b / 32 % 2 == 1) = b / 32 % 2 := by
    unfold cb
    rcases (zz4 : b / 32 % 2 = 0 ∨ b / 32 % 2 = 1) with e | e <;> rw [e] <;> rfl
   simp only [idg] at h
   split at h
   ·
    simp only [Prod.mk.injEq, and_true] at h
    obtain ⟨rfl, rfl, rfl, rfl⟩ := h
    refine ⟨⟨zz4, zz4, zz4, zz4⟩, zz4, zz19, ?_⟩
    unfold enc
    rw [if_pos zz4, hcb]
    simp; omega
   ·
    split at h
    ·
     rename_i h31 h0
     simp only [Prod.mk.injEq, and_true] at h
     obtain ⟨rfl, rfl, rfl, rfl⟩ := h
     obtain ⟨g1, g2, g3, g4, g5⟩ := gT_grp_back r _ _ hr (Prod.ext rfl (Prod.ext rfl h0) : gT 0 1 true r = ((gT 0 1 true r).1, (gT 0 1 true r).2.1, 0))
     refine ⟨⟨zz4, zz4, zz4, zz4⟩, zz4, zz29, ?_⟩
     unfold enc
     rw [if_neg zz4, g5, hcb]
     obtain ⟨m, hm⟩ : ∃ m, (gT 0 1 true r).1 = m + 1 := ⟨(gT 0 1 true r).1 - 1, zz4⟩
     rw [hm, List.take_succ_cons]
     simp; omega
    ·
     rename_i h0
     simp only [Prod.mk.injEq] at h
     exact absurd h.2.2.2.2 h0
theorem gT_err : ∀ (l : List Int) (t : Int) (n : Nat) (f : Bool), ((gT t n f l).2.2 = 0 ∨ (gT t n f l).2.2 = 2 ∨ (gT t n f l).2.2 = 3) ∧ n ≤ (gT t n f l).1 ∧ (gT t n f l).1 ≤ n + l.length ∧ ((gT t n f l).2.2 = 2 → (gT t n f l).1 = n + l.length) ∧ ((gT t n f l).2.2 = 3 → (gT t n f l).1 < n + l.length) := by
 intro l
 induction l with
 | nil => intro t n f; simp [gT]
 | cons b r ih =>
   intro t n f
   rw [gT_cons]
   have := ih (128 * t + b % 128) (n + 1) false
   simp only [List.length_cons]
   split
   ·
    simp
   split
   ·
    simp
   split
   ·
    obtain ⟨i1, i2, i3, i4, i5⟩ := this
    exact ⟨i1, zz4, zz4, fun h => by have := i4 h; omega, fun h => by have := i5 h; omega⟩
   split
   ·
    simp
   ·
    simp
theorem idg_err (l : List Int) : ((idg l).2.2.2.2 = 0 ∨ (idg l).2.2.2.2 = 2 ∨ (idg l).2.2.2.2 = 3) ∧ (idg l).2.2.2.1 ≤ l.length ∧ ((idg l).2.2.2.2 = 2 → (idg l).2.2.2.1 = l.length) ∧ ((idg l).2.2.2.2 = 3 → (idg l).2.2.2.1 < l.length) ∧
 ((idg l).2.2.2.2 ≠ 0 → (idg l).1 = 0 ∧ (idg l).2.1 = 0 ∧ (idg l).2.2.1 = false) := by
 cases l with
 | nil => simp [idg]
 | cons b r =>
   have := gT_err r 0 1 true
   simp only [idg]
   split
   ·
    simp
   ·
    split
    ·
     simp; omega
    ·
     simp; omega
end Go.Proofs.Ytcfommconnlhgaa.Idm
namespace Go.Proofs.Ytcfommconnlhgaa.Lenm
open Idm
set_option linter.unusedVariables false
def val (l : List Int) : Int := l.foldl (fun a b => 256 * a + b) 0
def lb (n : Nat) : List Int := if h : n < 256 then [(n : Int)] else lb (n / 256) ++ [((n % 256 : Nat) : Int)]
def lenc (n : Int) : List Int := if n < 128 then [n] else (128 + ((lb n.toNat).length : Int)) :: lb n.toNat
def MaxLen : Int := 2305843009213693951
def lg : List Int → Int × Nat × Int
 | [] => (0, 0, 2)
 | f :: r =>
   if f < 128 then (f, 1, 0)
   else if f = 128 ∨ 136 < f then (0, 0, 4)
   else if 0 < r.length ∧ (r.getD 0 0 = 0 ∨ f = 129 ∧ r.getD 0 0 < 128) then (0, 1, 4)
   else if (r.length : Int) < f - 128 then (0, 1 + r.length, 2)
   else if MaxLen < val (r.take (f - 128).toNat) then (0, (f - 128).toNat, 4)
   else (val (r.take (f - 128).toNat), 1 + (f - 128).toNat, 0)
theorem rev_ind {α : Type} {p : List α → Prop} (h0 : p []) (h1 : ∀ l b, p l → p (l ++ [b])) (l : List α) : p l := by
 have key : ∀ r : List α, p r.reverse := by
  intro r
  induction r with
  | nil => exact h0
  | cons a r ih => rw [List.reverse_cons]; exact h1 _ _ ih
 have := key l.reverse
 rwa [List.reverse_reverse] at this
theorem getD_front (l r : List Int) (h : 0 < l.length) : (l ++ r).getD 0 0 = l.getD 0 0 := by
 cases l with
 | nil => simp at h
 | cons a l => rfl
theorem val_snoc (l : List Int) (b : Int) : val (l ++ [b]) = 256 * val l + b := by simp [val, List.foldl_append]
theorem val_nonneg (l : List Int) (h : Bytes l) : 0 ≤ val l := by
 revert h
 refine rev_ind (p := fun l => Bytes l → 0 ≤ val l) (fun _ => by simp [val]) (fun l b ih h => ?_) l
 rw [val_snoc]
 have := ih (fun x hx => h x (by simp [hx])); have := h b zz19; omega
theorem lb_ne (n : Nat) : lb n ≠ [] := by rw [lb]; split <;> simp
theorem lb_pos (n : Nat) : 0 < (lb n).length := List.length_pos_iff.2 (lb_ne n)
theorem lb_small (n : Nat) (h : n < 256) : lb n = [(n : Int)] := by rw [lb, dif_pos h]
theorem lb_big (n : Nat) (h : 256 ≤ n) : lb n = lb (n / 256) ++ [((n % 256 : Nat) : Int)] := by rw [lb, dif_neg zz4]
theorem lb_len_one (n : Nat) : (lb n).length = 1 ↔ n < 256 := by
 constructor
 ·
  intro h
  rcases Nat.lt_or_ge n 256 with h1 | h1
  ·
   exact h1
  ·
   rw [lb_big n h1] at h
   have h2 := lb_pos (n / 256)
   rw [List.length_append, List.length_singleton] at h; omega
 ·
  intro h; rw [lb_small n h]; rfl
theorem lb_of (l : List Int) (hb : Bytes l) (h0 : 0 < l.length) (h1 : l.getD 0 0 ≠ 0) : lb (val l).toNat = l ∧ 0 < val l := by
 revert hb h0 h1
 refine rev_ind (p := fun l => Bytes l → 0 < l.length → l.getD 0 0 ≠ 0 → lb (val l).toNat = l ∧ 0 < val l) (fun _ h => by simp at h) (fun l b ih hb h0 h1 => ?_) l
 ·
  have hb0 := hb b zz19
  have hl : Bytes l := fun x hx => hb x (by simp [hx])
  rcases Nat.eq_zero_or_pos l.length with e | e
  ·
   obtain rfl := List.eq_nil_of_length_eq_zero e
   simp at h1
   simp only [List.nil_append]
   rw [show val [b] = b by simp [val], lb_small _ zz4]
   exact ⟨by congr 1; omega, zz4⟩
  ·
   rw [getD_front _ _ e] at h1
   obtain ⟨i1, i2⟩ := ih hl e h1
   rw [val_snoc]
   have h3 : (256 * val l + b).toNat = 256 * (val l).toNat + b.toNat := by omega
   rw [h3, lb_big _ zz4, show (256 * (val l).toNat + b.toNat) / 256 = (val l).toNat by omega, i1]
   refine ⟨by congr 2; omega, zz4⟩
theorem lg_back (l : List Int) (hb : Bytes l) (n : Int) (p : Nat) (h : lg l = (n, p, 0)) : 0 ≤ n ∧ n ≤ MaxLen ∧ 1 ≤ p ∧ p ≤ l.length ∧ lenc n = l.take p := by
 cases l with
 | nil => simp [lg] at h
 | cons f r =>
   have hf := hb f zz19
   have hr : Bytes r := fun x hx => hb x (by simp [hx])
   simp only [lg] at h
   split at h
   ·
    rename_i h1
    simp only [Prod.mk.injEq, and_true] at h
    obtain ⟨rfl, rfl⟩ := h
    refine ⟨hf.1, by unfold MaxLen; omega, zz4, zz19, ?_⟩
    unfold lenc; rw [if_pos h1]; rfl
   split at h
   ·
    simp at h
   split at h
   ·
    simp at h
   split at h
   ·
    simp at h
   split at h
   ·
    simp at h
   ·
    rename_i h1 h2 h3 h4 h5
    simp only [Prod.mk.injEq, and_true] at h
    obtain ⟨rfl, rfl⟩ := h
    obtain ⟨c, hc⟩ : ∃ c, c = (f - 128).toNat := ⟨_, rfl⟩
    rw [← hc] at h5 ⊢
    have hcl : (r.take c).length = c := by rw [List.length_take]; omega
    have hg : (r.take c).getD 0 0 = r.getD 0 0 := by
     rw [List.getD_eq_getElem?_getD, List.getD_eq_getElem?_getD, List.getElem?_take, if_pos zz4]
    have hbt : Bytes (r.take c) := fun x hx => hr x (List.mem_of_mem_take hx)
    have hne : r.getD 0 0 ≠ 0 := fun e => h3 ⟨zz4, .inl e⟩
    obtain ⟨i1, i2⟩ := lb_of (r.take c) hbt zz4 (by rwa [hg])
    refine ⟨zz4, zz4, zz4, zz29, ?_⟩
    have h128 : 128 ≤ val (r.take c) := by
     rcases Nat.lt_or_ge 1 c with hc1 | hc1
     ·
      have hone := lb_len_one (val (r.take c)).toNat
      rw [i1, hcl] at hone
      have : ¬ (val (r.take c)).toNat < 256 := fun h => by have := hone.2 h; omega
      omega
     ·
      obtain rfl : c = 1 := by omega
      have h6 : ¬ r.getD 0 0 < 128 := fun e => h3 ⟨zz4, .inr ⟨zz4, e⟩⟩
      have h7 := i1
      rw [lb_small _ ((lb_len_one _).1 (by rw [i1, hcl]))] at h7
      have h8 : (r.take 1).getD 0 0 = ((val (r.take 1)).toNat : Int) := by
       generalize (val (r.take 1)).toNat = m at h7
       rw [← h7]; rfl
      omega
    unfold lenc
    rw [if_neg zz4, i1, hcl, show 1 + c = c + 1 by omega, List.take_succ_cons]
    congr 1; omega
end Go.Proofs.Ytcfommconnlhgaa.Lenm
namespace Go.Proofs.Ytcfommconnlhgaa.Hdm
open Idm Lenm
set_option linter.unusedVariables false
def hdenc (c t : Int) (cons : Bool) (n : Int) : List Int := enc c t cons ++ lenc n
def Whole (c t n : Int) : Prop := Valid c t ∧ 0 ≤ n ∧ n ≤ MaxLen
def hg (l : List Int) : Int × Int × Bool × Int × Nat × Int :=
 if (idg l).2.2.2.2 = 0 then
  (if (lg (l.drop (idg l).2.2.2.1)).2.2 = 0 then ((idg l).1, (idg l).2.1, (idg l).2.2.1, (lg (l.drop (idg l).2.2.2.1)).1, (idg l).2.2.2.1 + (lg (l.drop (idg l).2.2.2.1)).2.1, 0)
   else (0, 0, false, 0, (idg l).2.2.2.1 + (lg (l.drop (idg l).2.2.2.1)).2.1, (lg (l.drop (idg l).2.2.2.1)).2.2))
 else (0, 0, false, 0, (idg l).2.2.2.1, (idg l).2.2.2.2)
theorem hg_back (l : List Int) (c t : Int) (cons : Bool) (n : Int) (p : Nat) (hb : Bytes l) (h : hg l = (c, t, cons, n, p, 0)) :
 Whole c t n ∧ 2 ≤ p ∧ p ≤ l.length ∧ hdenc c t cons n = l.take p := by
 unfold hg at h
 split at h
 ·
  rename_i h1
  split at h
  ·
   rename_i h2
   simp only [Prod.mk.injEq, and_true] at h
   obtain ⟨rfl, rfl, rfl, rfl, rfl⟩ := h
   obtain ⟨v, a1, a2, a3⟩ := idg_back l (idg l).1 (idg l).2.1 (idg l).2.2.1 (idg l).2.2.2.1 hb (Prod.ext rfl (Prod.ext rfl (Prod.ext rfl (Prod.ext rfl h1))) : idg l = ((idg l).1, (idg l).2.1, (idg l).2.2.1, (idg l).2.2.2.1, 0))
   obtain ⟨b1, b2, b3, b4, b5⟩ := lg_back (l.drop (idg l).2.2.2.1) (fun x hx => hb x (List.mem_of_mem_drop hx)) (lg (l.drop (idg l).2.2.2.1)).1 (lg (l.drop (idg l).2.2.2.1)).2.1 (Prod.ext rfl (Prod.ext rfl h2))
   rw [List.length_drop] at b4
   refine ⟨⟨v, b1, b2⟩, zz4, zz4, ?_⟩
   unfold hdenc
   rw [a3, b5, List.take_add]
  ·
   rename_i h2
   simp only [Prod.mk.injEq] at h
   exact absurd h.2.2.2.2.2 h2
 ·
  rename_i h1
  simp only [Prod.mk.injEq] at h
  exact absurd h.2.2.2.2.2 h1
end Go.Proofs.Ytcfommconnlhgaa.Hdm
