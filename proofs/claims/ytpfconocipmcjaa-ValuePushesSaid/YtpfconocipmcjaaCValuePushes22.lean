/- What the row of ValuePushes stands on, made small by a program of this session (pack.py). -/
import Derived.Test.YtpfconocipmcjaaCValuePushes2
import Derived.Test.YtpfconocipmcjaaCValuePushes19
import Derived.Test.YtpfconocipmcjaaCValuePushes21
namespace Go.Proofs.Ytpfconocipmcjaa.BDat
open RowKit PC YtpfconocipmcjaaW.PrintWords YtpfconocipmcjaaW.PrintLast YtpfconocipmcjaaW.PrintMore
open Bs
open Dt
set_option linter.unusedVariables false
theorem F_all {u : Bool} {p : List Int} (h : okp u p) (hl : (p.length : Int) + 1 = lenOf u) : (F u p).length = 14 := by
 cases u with
 | true =>
   cases p with
   | nil => simp [lenOf] at hl
   | cons a r => simp [F, cen_len, lenOf] at hl ⊢; omega
 | false => simp [F, lenOf] at hl ⊢; omega
end Go.Proofs.Ytpfconocipmcjaa.BDat
namespace Go.Proofs.Ytpfconocipmcjaa.BDat
open RowKit PC YtpfconocipmcjaaW.PrintWords YtpfconocipmcjaaW.PrintLast YtpfconocipmcjaaW.PrintMore
open Bs
open Dt
set_option linter.unusedVariables false
def bl : List Int → List Int → Bool
 | _, [] => false
 | [], _ :: _ => true
 | a :: x, b :: y => decide (a < b) || (a == b && bl x y)
theorem bytesLess_map : ∀ (x y : List UInt8), Op.bytesLess x y = bl (x.map fun b => (b.toNat : Int)) (y.map fun b => (b.toNat : Int))
 | _, [] => by simp [Op.bytesLess, bl]
 | [], _ :: _ => rfl
 | a :: x, b :: y => by
   have h1 : decide (a < b) = decide ((a.toNat : Int) < (b.toNat : Int)) := by
    rw [decide_eq_decide, UInt8.lt_iff_toNat_lt]; omega
   have h2 : (a == b) = ((a.toNat : Int) == (b.toNat : Int)) := by
    rw [Bool.eq_iff_iff, beq_iff_eq, beq_iff_eq, ← UInt8.toNat_inj]; omega
   simp only [Op.bytesLess, List.map_cons, bl]
   rw [h1, h2, bytesLess_map x y]
theorem four {D : List Int} (h : 4 ≤ D.length) : ∃ a b c d r, D = a :: b :: c :: d :: r := by
 match D, h with
 | a :: b :: c :: d :: r, _ => exact ⟨a, b, c, d, r, rfl⟩
theorem bl_year {D E : List Int} (hD : Digs D) (hE : Digs E) (h4 : 4 ≤ D.length) (g4 : 4 ≤ E.length) : (yr D < yr E → bl D E = true) ∧ (yr E < yr D → bl D E = false) ∧ (yr D = yr E → bl D E = bl (D.drop 4) (E.drop 4)) := by
 obtain ⟨a, b, c, d, r, rfl⟩ := four h4
 obtain ⟨a', b', c', d', r', rfl⟩ := four g4
 have ha := hD a zz29; have hb := hD b zz29; have hc := hD c zz29; have hd := hD d zz29
 have ha' := hE a' zz29; have hb' := hE b' zz29; have hc' := hE c' zz29; have hd' := hE d' zz29
 unfold Dig at *
 simp only [yr, at_, List.getD_cons_zero, List.getD_cons_succ, bl, List.drop_succ_cons, List.drop_zero]
 refine ⟨fun h => ?_, fun h => ?_, fun h => ?_⟩
 ·
  by_cases h1 : a < a'
  ·
   simp [h1]
  by_cases h2 : b < b'
  ·
   have : a = a' := by omega
   simp [h2, this]
  by_cases h3 : c < c'
  ·
   have : a = a' := by omega
   have : b = b' := by omega
   simp [*]
  ·
   have : a = a' := by omega
   have : b = b' := by omega
   have : c = c' := by omega
   have : d < d' := by omega
   simp [*]
 ·
  by_cases h1 : a' < a
  ·
   have : ¬ a < a' := by omega
   have : ¬ a = a' := by omega
   simp [*]
  by_cases h2 : b' < b
  ·
   have : ¬ b < b' := by omega
   have : ¬ b = b' := by omega
   have : ¬ a < a' := by omega
   simp [*]
  by_cases h3 : c' < c
  ·
   have : ¬ c < c' := by omega
   have : ¬ c = c' := by omega
   have : ¬ b < b' := by omega
   have : ¬ a < a' := by omega
   simp [*]
  ·
   have : ¬ d < d' := by omega
   have : ¬ d = d' := by omega
   have : ¬ c < c' := by omega
   have : ¬ b < b' := by omega
   have : ¬ a < a' := by omega
   simp [*]
 ·
  have : a = a' := by omega
  have : b = b' := by omega
  have : c = c' := by omega
  have : d = d' := by omega
  simp [*]
theorem bl_lit {D E : List Int} (hD : Digs D) (hE : Digs E) (h4 : 4 ≤ D.length) (g4 : E.length = 4) : bl D E = decide (yr D < yr E) := by
 obtain ⟨h1, h2, h3⟩ := bl_year hD hE h4 zz3
 rcases (zz3 : yr D < yr E ∨ yr E < yr D ∨ yr D = yr E) with h | h | h
 ·
  rw [h1 h]; simpa using h
 ·
  rw [h2 h]; simp; omega
 ·
  rw [h3 h, List.drop_of_length_le (l := E) zz3, show bl (D.drop 4) [] = false by cases D.drop 4 <;> rfl]
  simp; omega
theorem less_2050 (s : ByteArray) (h : Digs (bytesOf s)) (h4 : 4 ≤ s.size) : Op.bytesLess s.toList ([50, 48, 53, 48] : List UInt8) = decide (yr (bytesOf s) < 2050) := by
 rw [bytesLess_map, Lib.toList_data]
 exact bl_lit (E := [50, 48, 53, 48]) h (fun x hx => by simp at hx; unfold Dig; omega) (by rw [← bytesOf_length] at h4; exact h4) rfl
end Go.Proofs.Ytpfconocipmcjaa.BDat
