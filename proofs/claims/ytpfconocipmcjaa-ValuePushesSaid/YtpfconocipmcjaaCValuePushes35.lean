/- What the row of ValuePushes stands on, made small by a program of this session (pack.py). -/
import Derived.Test.YtpfconocipmcjaaCValuePushes2
import Derived.Test.YtpfconocipmcjaaCValuePushes17
import Derived.Test.YtpfconocipmcjaaCValuePushes31
import Derived.Test.YtpfconocipmcjaaCValuePushes34
namespace Go.Proofs.Ytpfconocipmcjaa.RId
open RowKit PC YtpfconocipmcjaaW.PrintWords YtpfconocipmcjaaW.PrintLast YtpfconocipmcjaaW.PrintMore
open Idm BId
set_option linter.unusedVariables false
theorem rget_loop (s : ByteArray) (hs : s.size ≤ 281474976710656) (at_ c tg : Int) (cons : Bool) (h0 : 0 ≤ at_) :
 ∀ (d k : Nat) (t i : Int) (n : Nat), 1 ≤ n → i = at_ + n → i + d = s.size → 0 ≤ t → t ≤ 268435455 → 2 * d + 1 ≤ k →
  gantletref05_Get.l0 k s at_ t i 0 0 false 0 c tg cons 0 = some (if (gT t n (n == 1) ((bytesOf s).drop i.toNat)).2.2 = 0 then (c, (gT t n (n == 1) ((bytesOf s).drop i.toNat)).2.1, cons, 0, at_ + ((gT t n (n == 1) ((bytesOf s).drop i.toNat)).1 : Int), 0)
   else (0, 0, false, 0, at_ + ((gT t n (n == 1) ((bytesOf s).drop i.toNat)).1 : Int), (gT t n (n == 1) ((bytesOf s).drop i.toNat)).2.2)) := by
 intro d
 induction d with
 | zero =>
   intro k t i n hn hi hd ht0 htm hk
   obtain ⟨k, rfl⟩ : ∃ m, k = m + 1 := ⟨k - 1, zz3⟩
   rw [drop_end s i zz3]
   rw [show gT t n (n == 1) [] = (n, 0, 2) from rfl]
   simp only [gantletref05_Get.l0]
   rw [if_neg zz3]
   simp; omega
 | succ d ih =>
   intro k t i n hn hi hd ht0 htm hk
   obtain ⟨k, rfl⟩ : ∃ m, k = m + 2 := ⟨k - 2, zz3⟩
   have hb := bt_range s i
   have hi1 : wrap64 (i + 1) = i + 1 := w64 zz3 zz3
   have ha1 : wrap64 (at_ + 1) = at_ + 1 := w64 zz3 zz3
   have hbw : wrap64 (bt s i) = bt s i := w64 zz3 zz3
   have htt : wrap64 ((wrap64 (128 * t)) + (Int.tmod (bt s i) 128)) = 128 * t + bt s i % 128 := by
    rw [Int.tmod_eq_emod_of_nonneg zz3, w64 (x := 128 * t) zz3 zz3, w64 zz3 zz3]
   have e : gantletref05_Get.l0 (k + 2) s at_ t i 0 0 false 0 c tg cons 0 = gantletref05_Get.j2 (k + 1) s at_ t i (bt s i) ((n == 1) && (bt s i == 128)) 0 0 false 0 c tg cons 0 := by
    simp only [gantletref05_Get.l0]
    rw [if_pos zz3, ha1, if_pos zz3, hbw]
    by_cases h : n = 1
    ·
     subst h
     rw [if_pos zz3]; simp
    ·
     rw [if_neg zz3, show (n == 1) = false by simpa using h]; rfl
   rw [e, drop_at s i zz3 zz3, gT_cons]
   simp only [gantletref05_Get.j2]
   by_cases h1 : ((n == 1) && (bt s i == 128)) = true
   ·
    rw [if_pos h1, if_pos h1]; simp; omega
   rw [if_neg h1, if_neg h1, htt]
   by_cases h2 : 128 * t + bt s i % 128 > 268435455
   ·
    rw [if_pos h2, if_pos h2]; simp; omega
   rw [if_neg h2, if_neg h2]
   by_cases h3 : bt s i ≥ 128
   ·
    rw [if_neg zz3, if_pos h3, hi1, ih k _ (i + 1) (n + 1) zz3 zz3 zz3 zz3 zz3 zz3, show (n + 1 == 1) = false by simp; omega]
   rw [if_pos zz3, if_neg h3]
   by_cases h4 : 128 * t + bt s i % 128 < 31
   ·
    rw [if_pos h4, if_pos h4]; simp; omega
   ·
    rw [if_neg h4, if_neg h4, hi1]; simp; omega
theorem rget_ok (s : ByteArray) (hs : s.size ≤ 281474976710656) (at_ : Int) (h0 : 0 ≤ at_) (h1 : at_ ≤ s.size) (k : Nat) (hk : 2 * s.size + 3 ≤ k) :
 gantletref05_Get.f k s at_ = some (gotten at_ (idg ((bytesOf s).drop at_.toNat))) := by
 obtain ⟨k, rfl⟩ : ∃ m, k = m + 1 := ⟨k - 1, zz3⟩
 unfold gantletref05_Get.f
 rw [if_neg zz3, show decide (at_ > (s.size : Int)) = false by simp; omega]
 simp only [gantletref05_Get.j0, Bool.false_eq_true, if_false]
 by_cases h2 : at_ = (s.size : Int)
 ·
  rw [if_pos h2, drop_end s at_ zz3]; simp [idg, gotten]
 ·
  have hb := bt_range s at_
  have ha1 : wrap64 (at_ + 1) = at_ + 1 := w64 zz3 zz3
  have hbw : wrap64 (bt s at_) = bt s at_ := w64 zz3 zz3
  rw [if_neg h2, if_pos h0, if_pos zz3, drop_at s at_ h0 zz3, hbw, Int.tmod_eq_emod_of_nonneg hb.1, Int.tdiv_eq_ediv_of_nonneg hb.1, Int.tdiv_eq_ediv_of_nonneg hb.1, w64 (x := bt s at_ / 64) zz3 zz3, w64 (x := bt s at_ / 32) zz3 zz3, Int.tmod_eq_emod_of_nonneg zz3, ha1]
  by_cases h3 : bt s at_ % 32 < 31
  ·
   rw [if_neg zz3]; simp [idg, gotten, h3]
  ·
   rw [if_pos zz3, rget_loop s hs at_ _ _ _ h0 (s.size - at_.toNat - 1) k 0 (at_ + 1) 1 zz3 rfl zz3 zz3 zz3 zz3]
   simp only [idg, if_neg h3, beq_self_eq_true]
   split
   ·
    rename_i h; simp [gotten]
   ·
    simp [gotten]
end Go.Proofs.Ytpfconocipmcjaa.RId
