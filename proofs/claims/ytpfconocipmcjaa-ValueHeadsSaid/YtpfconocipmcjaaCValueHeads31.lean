/- What the row of ValueHeads stands on, made small by a program of this session (pack.py). -/
import Derived.Test.YtpfconocipmcjaaCValueHeads2
import Derived.Test.YtpfconocipmcjaaCValueHeads15
import Derived.Test.YtpfconocipmcjaaCValueHeads30
namespace Go.Proofs.Ytpfconocipmcjaa.RId
open RowKit PC YtpfconocipmcjaaW.PrintWords YtpfconocipmcjaaW.PrintLast YtpfconocipmcjaaW.PrintMore
open Idm BId
set_option linter.unusedVariables false
def digits (t : Int) : List Int :=
 if t < 128 then [t]
 else if t < 16384 then [t / 128, t % 128]
 else if t < 2097152 then [t / 128 / 128, t / 128 % 128, t % 128]
 else [t / 128 / 128 / 128, t / 128 / 128 % 128, t / 128 % 128, t % 128]
theorem groups_l0 (k : Nat) (x0 : Int) (x3 : List Int) (h0 : 0 ≤ x0) (hm : x0 ≤ 268435455) (h3 : x3.length < 100) :
 gantletref05_groups.l0 (k + 1) x0 x3 = if x0 > 127 then gantletref05_groups.l0 k (x0 / 128) (x0 / 128 % 128 :: x3) else some x3 := by
 simp only [gantletref05_groups.l0, Option.bind_some]
 split
 ·
  rw [if_pos zz56, Int.tdiv_eq_ediv_of_nonneg h0, w64 zz5 zz5, Int.tmod_eq_emod_of_nonneg zz5]
  rfl
 ·
  rfl
theorem groups_ok (k : Nat) (t : Int) (h0 : 0 ≤ t) (hm : t ≤ 268435455) : gantletref05_groups.f (k + 5) t = some (digits t) := by
 unfold gantletref05_groups.f digits
 rw [Int.tmod_eq_emod_of_nonneg h0, groups_l0 _ _ _ h0 hm zz28]
 by_cases h1 : t < 128
 ·
  rw [if_neg zz5, if_pos h1, show t % 128 = t by omega]
 rw [if_pos zz5, if_neg h1, groups_l0 _ _ _ zz5 zz5 zz28]
 by_cases h2 : t < 16384
 ·
  rw [if_neg zz5, if_pos h2, show t / 128 % 128 = t / 128 by omega]
 rw [if_pos zz5, if_neg h2, groups_l0 _ _ _ zz5 zz5 zz28]
 by_cases h3 : t < 2097152
 ·
  rw [if_neg zz5, if_pos h3, show t / 128 / 128 % 128 = t / 128 / 128 by omega]
 rw [if_pos zz5, if_neg h3, groups_l0 _ _ _ zz5 zz5 zz28, if_neg zz5, show t / 128 / 128 / 128 % 128 = t / 128 / 128 / 128 by omega]
theorem rput_l0 (k : Nat) (x5 x6 : List Int) (i : Nat) (h5 : x5.length < 1000) (h6 : x6.length < 1000) :
 gantletref05_Put.l0 (k + 1) x5 x6 i = if (i : Int) < (x6.length : Int) then (if (i : Int) < (x6.length : Int) - 1 then gantletref05_Put.l0 k (x5 ++ [(wrap64 (128 + (rd x6 i))) % 256]) x6 ((i + 1 : Nat) : Int)
  else gantletref05_Put.l0 k (x5 ++ [(rd x6 i) % 256]) x6 ((i + 1 : Nat) : Int)) else some (strOfNums x5, 0) := by
 simp only [gantletref05_Put.l0]
 split
 ·
  have h9 : x5.length < 140737488355328 := by omega
  have h0 : (0 : Int) ≤ i := by omega
  rw [w64 (x := (x6.length : Int) - 1) zz5 zz5, w64 (x := (i : Int) + 1) zz5 zz5, show ((i : Int) + 1) = ((i + 1 : Nat) : Int) by omega]
  simp only [if_pos h0, if_pos h9]
 ·
  rfl
theorem rput_loop (k : Nat) (b t : Int) (h31 : 31 ≤ t) (hm : t ≤ 268435455) : gantletref05_Put.l0 (k + 6) [b] (digits t) 0 = some (strOfNums (b :: grp t), 0) := by
 unfold digits grp
 have z : (0 : Int) = ((0 : Nat) : Int) := rfl
 rw [z]
 by_cases h1 : t < 128
 ·
  rw [if_pos h1, if_pos h1, rput_l0 _ _ _ _ zz28 zz28, if_pos zz28, if_neg zz28, rput_l0 _ _ _ _ zz28 zz28, if_neg zz28]
  simp [rd]; congr 3; omega
 rw [if_neg h1, if_neg h1]
 by_cases h2 : t < 16384
 ·
  rw [if_pos h2, if_pos h2, rput_l0 _ _ _ _ zz28 zz28, if_pos zz28, if_pos zz28, rput_l0 _ _ _ _ zz28 zz28, if_pos zz28, if_neg zz28, rput_l0 _ _ _ _ zz28 zz28, if_neg zz28]
  simp only [rd, Int.toNat_natCast, List.getD_cons_zero, List.getD_cons_succ, List.cons_append, List.nil_append]
  rw [w64 zz5 zz5, show (128 + t / 128) % 256 = 128 + t / 128 by omega, show t % 128 % 256 = t % 128 by omega]
  rfl
 rw [if_neg h2, if_neg h2]
 by_cases h3 : t < 2097152
 ·
  rw [if_pos h3, if_pos h3, rput_l0 _ _ _ _ zz28 zz28, if_pos zz28, if_pos zz28, rput_l0 _ _ _ _ zz28 zz28, if_pos zz28, if_pos zz28, rput_l0 _ _ _ _ zz28 zz28, if_pos zz28, if_neg zz28, rput_l0 _ _ _ _ zz28 zz28, if_neg zz28]
  simp only [rd, Int.toNat_natCast, List.getD_cons_zero, List.getD_cons_succ, List.cons_append, List.nil_append]
  rw [w64 (x := 128 + t / 128 / 128) zz5 zz5, w64 (x := 128 + t / 128 % 128) zz5 zz5, show (128 + t / 128 / 128) % 256 = 128 + t / 128 / 128 by omega, show (128 + t / 128 % 128) % 256 = 128 + t / 128 % 128 by omega, show t % 128 % 256 = t % 128 by omega]
  rfl
 ·
  rw [if_neg h3, if_neg h3, rput_l0 _ _ _ _ zz28 zz28, if_pos zz28, if_pos zz28, rput_l0 _ _ _ _ zz28 zz28, if_pos zz28, if_pos zz28, rput_l0 _ _ _ _ zz28 zz28, if_pos zz28, if_pos zz28, rput_l0 _ _ _ _ zz28 zz28, if_pos zz28, if_neg zz28, rput_l0 _ _ _ _ zz28 zz28, if_neg zz28]
  simp only [rd, Int.toNat_natCast, List.getD_cons_zero, List.getD_cons_succ, List.cons_append, List.nil_append]
  rw [w64 (x := 128 + t / 128 / 128 / 128) zz5 zz5, w64 (x := 128 + t / 128 / 128 % 128) zz5 zz5, w64 (x := 128 + t / 128 % 128) zz5 zz5,
   show (128 + t / 128 / 128 / 128) % 256 = 128 + t / 128 / 128 / 128 by omega, show (128 + t / 128 / 128 % 128) % 256 = 128 + t / 128 / 128 % 128 by omega, show (128 + t / 128 % 128) % 256 = 128 + t / 128 % 128 by omega, show t % 128 % 256 = t % 128 by omega]
  rfl
theorem rput_ok (k : Nat) {c t : Int} (cons : Bool) (l : Int) (h : Valid c t) : gantletref05_Put.f (k + 9) c t cons l = some (strOfNums (enc c t cons), 0) := by
 obtain ⟨h0, h3, t0, tm⟩ := h
 have hc := cb_range cons
 unfold gantletref05_Put.f
 rw [if_neg zz5, if_neg zz5, if_neg zz5, show decide (t > 268435455) = false by simp; omega]
 have e : gantletref05_Put.j0 (k + 9) false c t cons l = gantletref05_Put.j1 (k + 8) (64 * c + 32 * cb cons) c t cons l := by
  simp only [gantletref05_Put.j0, Bool.false_eq_true, if_false]
  rw [w64 (x := 64 * c) zz5 zz5, w64 (x := 64 * c + 32) zz5 zz5]
  cases cons <;> simp [cb]
 rw [e]
 simp only [gantletref05_Put.j1]
 unfold enc
 by_cases h31 : t < 31
 ·
  rw [if_pos h31, if_pos h31, w64 zz5 zz5, show (64 * c + 32 * cb cons + t) % 256 = 64 * c + 32 * cb cons + t by omega]
 ·
  rw [if_neg h31, if_neg h31, groups_ok (k + 2) t t0 tm, w64 zz5 zz5, show (64 * c + 32 * cb cons + 31) % 256 = 64 * c + 32 * cb cons + 31 by omega]
  exact rput_loop (k + 1) _ t zz5 tm
end Go.Proofs.Ytpfconocipmcjaa.RId
