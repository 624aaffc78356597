/- What the row of ValueRight stands on, made small by a program of this session (pack.py). -/
import Derived.Test.YtpfconocipmcjaaCValueRight2
import Derived.Test.YtpfconocipmcjaaCValueRight4
import Derived.Test.YtpfconocipmcjaaCValueRight25
namespace Go.Proofs.Ytpfconocipmcjaa.PC
open RowKit YtpfconocipmcjaaW.PrintWords YtpfconocipmcjaaW.PrintLast YtpfconocipmcjaaW.PrintMore
attribute [local go_sem] max2_int min2_int max_two min_two max_three min_three max_four min_four
set_option linter.unusedVariables false
set_option linter.unusedSimpArgs false
def gantletref14_Wrong.l0 : Nat → Int → Int → ByteArray → Int → Option (Int)
 | 0, _, _, _, _ => none
 | k + 1, x0, x1, x2, x7 => if x7 ≤ (x2.size : Int) then (if 0 ≤ x7 then ((gantletref14_Can.f k x0 x1 (x2.extract 0 (x7 : Int).toNat)).bind fun t254 => (if t254 = true then (gantletref14_Wrong.l0 k x0 x1 x2 (wrap64 (x7 + 1))) else (some x7))) else (none)) else (some (-1))
def gantletref14_Wrong.f (k : Nat) (a0 : Int) (a1 : Int) (a2 : ByteArray) : Option (Int) := gantletref14_Wrong.l0 k a0 a1 a2 0
set_option maxHeartbeats 8000000 in
set_option maxRecDepth 100000 in
theorem gantletref14_Wrong.calls (k : Nat) (a0 : Int) (a1 : Int) (a2 : ByteArray) (r : Int) (w : World) (h : gantletref14_Wrong.f k a0 a1 a2 = some r) :
 Calls Try.prog 33 #[.int .i64 a0, .int .i64 a1, .string a2] w fun e w' => e = .returned (.int .i64 r) ∧ Below w.heap.size w w' := by
 have HB := Aside0.mk (Below.refl w.heap.size w)
 have H : (gantletref14_Wrong.l0 k a0 a1 a2 0) = some r := h
 clear h
 have H' := Aside0.mk H
 clear H
 go_enter Try.func33, Try.ntmps33
 go_wp2
 go_loopg [7] k (fun kq v7 w' => ∃ (x7_1 : Int), v7 = .int .i64 x7_1 ∧ Aside0 (gantletref14_Wrong.l0 kq a0 a1 a2 x7_1 = some r) ∧ Aside0 (kq ≤ k) ∧ Aside0 (Below w.heap.size w w'))
 case atStart => exact ⟨(0), zz0, H', ⟨Nat.le_refl _⟩, ⟨zz2⟩⟩
 case round =>
  clear H'
  try clear p2
  try clear c3
  obtain ⟨x7_1, rfl, HA, HK1, HB⟩ := hrel
  cases gk with
  | zero => exact absurd HA.out (by simp [gantletref14_Wrong.l0])
  | succ k1 =>
    have H := HA.out
    clear HA
    simp only [gantletref14_Wrong.l0] at H
    by_cases c4 : x7_1 ≤ (a2.size : Int)
    ·
     rw [if_pos c4] at H
     have c4b0 : decide (x7_1 ≤ (a2.size : Int)) = true := decide_eq_true c4
     clear c4
     by_cases c5 : 0 ≤ x7_1
     ·
      rw [if_pos c5] at H
      have c5b0 := eq_true c5
      have c5b1 : decide (0 ≤ x7_1) = true := decide_eq_true c5
      clear c5
      have c6b0 := eq_true (of_decide_eq_true zz3 : x7_1 ≤ (a2.size : Int))
      replace H := Option.bind_eq_some_iff.mp H
      obtain ⟨t254, A70, H⟩ := H
      replace H : (if t254 = true then (gantletref14_Wrong.l0 k1 a0 a1 a2 (wrap64 (x7_1 + 1))) else (some x7_1)) = some r := H
      have A7 := Aside0.mk A70
      clear A70
      by_cases c8 : t254 = true
      ·
       subst c8
       rw [if_pos rfl] at H
       have H' := Aside0.mk H
       clear H
       go_wp2_with (first | ((with_reducible refine gate_callee (f := 44) rfl ?_); refine goesL_ (some 19) rfl rfl Try.func44 zz12 rfl #[.int .i64 a0, .int .i64 a1, .string (a2.extract 0 (x7_1 : Int).toNat)] rfl zz5 ?_; (with_reducible refine (gantletref14_Can.calls k1 a0 a1 (a2.extract 0 (x7_1 : Int).toNat) true _ A7.out).mono ?_); rintro e w9 ⟨rfl, hb⟩; refine ⟨_, rfl, ?_⟩; have n0_ := Aside0.mk (below_step zz2 hb); clear HB; have HB := n0_; clear n0_; (try clear hb); (try clear hb2); (try clear hk); (try clear hi)))
       go_roundg k1
       case measure => have := HK1.out; omega
       case rel => exact ⟨(wrap64 (x7_1 + 1)), zz0, H', ⟨zz57⟩, ⟨zz2⟩⟩
      ·
       replace c8 := Bool.eq_false_iff.mpr c8
       subst c8
       rw [if_neg (show ¬ (false = true) by decide)] at H
       obtain rfl := Option.some.inj H
       go_wp2_with (first | ((with_reducible refine gate_callee (f := 44) rfl ?_); refine goesL_ (some 19) rfl rfl Try.func44 zz12 rfl #[.int .i64 a0, .int .i64 a1, .string (a2.extract 0 (x7_1 : Int).toNat)] rfl zz5 ?_; (with_reducible refine (gantletref14_Can.calls k1 a0 a1 (a2.extract 0 (x7_1 : Int).toNat) false _ A7.out).mono ?_); rintro e w10 ⟨rfl, hb⟩; refine ⟨_, rfl, ?_⟩; have n0_ := Aside0.mk (below_step zz2 hb); clear HB; have HB := n0_; clear n0_; (try clear hb); (try clear hb2); (try clear hk); (try clear hi)))
       go_ret
       exact ⟨zz6, zz2⟩
     ·
      rw [if_neg c5] at H
      exact absurd H zz30
    ·
     rw [if_neg c4] at H
     have c4b0 : decide (x7_1 ≤ (a2.size : Int)) = false := decide_eq_false c4
     clear c4
     obtain rfl := Option.some.inj H
     go_wp2
     go_ret
     exact ⟨zz6, zz2⟩
end Go.Proofs.Ytpfconocipmcjaa.PC
