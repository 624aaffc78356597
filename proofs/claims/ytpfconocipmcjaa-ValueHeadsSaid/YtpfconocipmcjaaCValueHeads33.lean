/- What the row of ValueHeads stands on, made small by a program of this session (pack.py). -/
import Derived.Test.YtpfconocipmcjaaCValueHeads2
import Derived.Test.YtpfconocipmcjaaCValueHeads15
import Derived.Test.YtpfconocipmcjaaCValueHeads32
namespace Go.Proofs.Ytpfconocipmcjaa.BLen
open RowKit PC YtpfconocipmcjaaW.PrintWords YtpfconocipmcjaaW.PrintLast YtpfconocipmcjaaW.PrintMore
open Idm Lenm BId
set_option linter.unusedVariables false
theorem rlput_loop : ∀ (d n : Nat) (k : Nat) (acc : List Int), n < 256 ^ d → d ≤ 8 → d < k → acc.length + d ≤ 20 → (lb0 n ++ acc).length ≤ 100 →
 gantletref06_Put.l0 k n acc = some (strOfNums ((128 + ((lb0 n ++ acc).length : Int)) :: (lb0 n ++ acc)), 0) := by
 intro d
 induction d with
 | zero =>
   intro n k acc hn _ hk hl hz
   obtain ⟨k, rfl⟩ : ∃ m, k = m + 1 := ⟨k - 1, zz5⟩
   obtain rfl : n = 0 := by simpa using hn
   simp only [gantletref06_Put.l0]
   have e : lb0 0 = [] := rfl
   rw [e] at hz ⊢
   simp at hz
   rw [if_neg zz28, List.nil_append, w64 zz5 zz5, Option.bind_some, if_pos (by rw [strOfNums_size, strOfNums_size]; simp; omega), strOf_append, show (128 + (acc.length : Int)) % 256 = 128 + acc.length by omega]
   rfl
 | succ d ih =>
   intro n k acc hn hd hk hl hz
   obtain ⟨k, rfl⟩ : ∃ m, k = m + 1 := ⟨k - 1, zz5⟩
   have hn8 : n < 256 ^ 8 := Nat.lt_of_lt_of_le hn (Nat.pow_le_pow_right zz5 hd)
   rcases Nat.eq_zero_or_pos n with h0 | h0
   ·
    subst h0
    simp only [gantletref06_Put.l0]
    have e : lb0 0 = [] := rfl
    rw [e] at hz ⊢
    simp at hz
    rw [if_neg zz28, List.nil_append, w64 zz5 zz5, Option.bind_some, if_pos (by rw [strOfNums_size, strOfNums_size]; simp; omega), strOf_append, show (128 + (acc.length : Int)) % 256 = 128 + acc.length by omega]
    rfl
   ·
    simp only [gantletref06_Put.l0]
    rw [if_pos zz5, Option.bind_some, if_pos zz56, Int.tdiv_eq_ediv_of_nonneg zz5, Int.tmod_eq_emod_of_nonneg zz5, w64 zz5 (by simp at hn8; omega)]
    have e1 : ((n : Int) / 256) = ((n / 256 : Nat) : Int) := by omega
    have e2 : (n : Int) % 256 % 256 = ((n % 256 : Nat) : Int) := by omega
    have e3 : lb0 n ++ acc = lb0 (n / 256) ++ ([((n % 256 : Nat) : Int)] ++ acc) := by rw [lb0_step n h0, List.append_assoc]
    rw [e3] at hz
    rw [e1, e2, e3]
    exact ih (n / 256) k _ (by rw [Nat.div_lt_iff_lt_mul zz5]; rw [Nat.pow_succ] at hn; exact hn) zz5 zz5 zz56 hz
theorem rlput_ok (k : Nat) (n : Int) (h0 : 0 ≤ n) (h1 : n ≤ MaxLen) (hk : 12 ≤ k) : gantletref06_Put.f k n = some (strOfNums (lenc n), 0) := by
 unfold MaxLen at h1
 obtain ⟨k, rfl⟩ : ∃ m, k = m + 1 := ⟨k - 1, zz5⟩
 unfold gantletref06_Put.f
 rw [if_neg zz5, show decide (n > 2305843009213693951) = false by simp; omega]
 simp only [gantletref06_Put.j0, Bool.false_eq_true, if_false]
 unfold lenc
 by_cases h : n < 128
 ·
  rw [if_pos h, if_pos h, show n % 256 = n by omega]
 ·
  rw [if_neg h, if_neg h]
  have hb : lb0 n.toNat = lb n.toNat := by unfold lb0; rw [if_neg zz5]
  have h8 := lb_len_le 7 n.toNat zz56
  have := rlput_loop 8 n.toNat k [] zz56 zz5 zz5 zz28 (by rw [hb]; simp; omega)
  rw [hb, List.append_nil, Int.toNat_of_nonneg h0] at this
  exact this
end Go.Proofs.Ytpfconocipmcjaa.BLen
