/- What the row of ValuePushes stands on, made small by a program of this session (pack.py). -/
import Derived.Test.YtpfconocipmcjaaCValuePushes2
import Derived.Test.YtpfconocipmcjaaCValuePushes4
import Derived.Test.YtpfconocipmcjaaCValuePushes5
namespace Go.Proofs.Ytpfconocipmcjaa.PC
open Own Sl
open RowKit YtpfconocipmcjaaW.PrintWords YtpfconocipmcjaaW.PrintLast YtpfconocipmcjaaW.PrintMore
attribute [local go_sem] max2_int min2_int max_two min_two max_three min_three max_four min_four
set_option linter.unusedVariables false
set_option linter.unusedSimpArgs false
mutual
def gantletref14_char.j0 : Nat → ByteArray → Int → Int → Int → Int → Bool → Option (Int)
 | 0, _, _, _, _, _, _ => none
 | k + 1, x0, x1, x5, x6, x7, x21 => if x21 = true then (gantletref14_char.j1 k x0 x1 x5 2 (wrap64 (x5 - 192))) else (gantletref14_char.j1 k x0 x1 x5 x6 x7)
def gantletref14_char.j1 : Nat → ByteArray → Int → Int → Int → Int → Option (Int)
 | 0, _, _, _, _, _ => none
 | k + 1, x0, x1, x5, x6, x7 => if x5 ≥ 224 then (gantletref14_char.j2 k x0 x1 x5 x6 x7 (decide (x5 < 240))) else (gantletref14_char.j2 k x0 x1 x5 x6 x7 false)
def gantletref14_char.j2 : Nat → ByteArray → Int → Int → Int → Int → Bool → Option (Int)
 | 0, _, _, _, _, _, _ => none
 | k + 1, x0, x1, x5, x6, x7, x29 => if x29 = true then (gantletref14_char.j3 k x0 x1 x5 3 (wrap64 (x5 - 224))) else (gantletref14_char.j3 k x0 x1 x5 x6 x7)
def gantletref14_char.j3 : Nat → ByteArray → Int → Int → Int → Int → Option (Int)
 | 0, _, _, _, _, _ => none
 | k + 1, x0, x1, x5, x6, x7 => if x5 ≥ 240 then (gantletref14_char.j4 k x0 x1 x5 x6 x7 (decide (x5 < 248))) else (gantletref14_char.j4 k x0 x1 x5 x6 x7 false)
def gantletref14_char.j4 : Nat → ByteArray → Int → Int → Int → Int → Bool → Option (Int)
 | 0, _, _, _, _, _, _ => none
 | k + 1, x0, x1, x5, x6, x7, x37 => if x37 = true then (gantletref14_char.j5 k x0 x1 4 (wrap64 (x5 - 240))) else (gantletref14_char.j5 k x0 x1 x6 x7)
def gantletref14_char.j5 : Nat → ByteArray → Int → Int → Int → Option (Int)
 | 0, _, _, _, _ => none
 | k + 1, x0, x1, x6, x7 => if x6 = 0 then (gantletref14_char.j6 k x0 x1 x6 x7 true) else (gantletref14_char.j6 k x0 x1 x6 x7 (decide ((wrap64 (x1 + x6)) > (x0.size : Int))))
def gantletref14_char.j6 : Nat → ByteArray → Int → Int → Int → Bool → Option (Int)
 | 0, _, _, _, _, _ => none
 | k + 1, x0, x1, x6, x7, x49 => if x49 = true then (some 0) else (gantletref14_char.l0 k x0 x1 x6 x7 1)
def gantletref14_char.l0 : Nat → ByteArray → Int → Int → Int → Int → Option (Int)
 | 0, _, _, _, _, _ => none
 | k + 1, x0, x1, x6, x7, x8 => if x8 < x6 then (if 0 ≤ (wrap64 (x1 + x8)) then (if (wrap64 (x1 + x8)) < (x0.size : Int) then (if (wrap64 (bt x0 (wrap64 (x1 + x8)))) < 128 then (some 0) else (if (wrap64 (bt x0 (wrap64 (x1 + x8)))) > 191 then (some 0) else (gantletref14_char.l0 k x0 x1 x6 (wrap64 ((wrap64 ((wrap64 (64 * x7)) + (wrap64 (bt x0 (wrap64 (x1 + x8)))))) - 128)) (wrap64 (x8 + 1))))) else (none)) else (none)) else (if x6 = 2 then (if x7 < 128 then (some 0) else (if x6 = 3 then (if x7 < 2048 then (some 0) else (if x6 = 4 then (if x7 < 65536 then (some 0) else (if x7 > 1114111 then (some 0) else (if x7 ≥ 55296 then (if x7 ≤ 57343 then (some 0) else (some x6)) else (some x6)))) else (if x7 ≥ 55296 then (if x7 ≤ 57343 then (some 0) else (some x6)) else (some x6)))) else (if x6 = 4 then (if x7 < 65536 then (some 0) else (if x7 > 1114111 then (some 0) else (if x7 ≥ 55296 then (if x7 ≤ 57343 then (some 0) else (some x6)) else (some x6)))) else (if x7 ≥ 55296 then (if x7 ≤ 57343 then (some 0) else (some x6)) else (some x6))))) else (if x6 = 3 then (if x7 < 2048 then (some 0) else (if x6 = 4 then (if x7 < 65536 then (some 0) else (if x7 > 1114111 then (some 0) else (if x7 ≥ 55296 then (if x7 ≤ 57343 then (some 0) else (some x6)) else (some x6)))) else (if x7 ≥ 55296 then (if x7 ≤ 57343 then (some 0) else (some x6)) else (some x6)))) else (if x6 = 4 then (if x7 < 65536 then (some 0) else (if x7 > 1114111 then (some 0) else (if x7 ≥ 55296 then (if x7 ≤ 57343 then (some 0) else (some x6)) else (some x6)))) else (if x7 ≥ 55296 then (if x7 ≤ 57343 then (some 0) else (some x6)) else (some x6)))))
end
def gantletref14_char.f (k : Nat) (a0 : ByteArray) (a1 : Int) : Option (Int) := if 0 ≤ a1 then (if a1 < (a0.size : Int) then (if (wrap64 (bt a0 a1)) < 128 then (some 1) else (if (wrap64 (bt a0 a1)) ≥ 192 then (gantletref14_char.j0 k a0 a1 (wrap64 (bt a0 a1)) 0 0 (decide ((wrap64 (bt a0 a1)) < 224))) else (gantletref14_char.j0 k a0 a1 (wrap64 (bt a0 a1)) 0 0 false))) else (none)) else (none)
set_option maxHeartbeats 8000000 in
set_option maxRecDepth 100000 in
theorem gantletref14_char.calls (k : Nat) (a0 : ByteArray) (a1 : Int) (r : Int) (w : World) (h : gantletref14_char.f k a0 a1 = some r) :
 Calls Try.prog 66 #[.string a0, .int .i64 a1] w fun e w' => e = .returned (.int .i64 r) ∧ Drawn0 w w' := by
 unfold gantletref14_char.f at h
 by_cases p1 : 0 ≤ a1
 case neg => rw [if_neg p1] at h; cases h
 by_cases p2 : a1 < (a0.size : Int)
 case neg => rw [if_pos p1, if_neg p2] at h; cases h
 rw [if_pos p1, if_pos p2] at h
 have hx := bt_at a0 a1
 replace p1 := eq_true p1
 replace p2 := eq_true p2
 obtain ⟨c, hc⟩ : ∃ c, wrap64 (bt a0 a1) = c := ⟨_, rfl⟩
 have hw : IntKind.i64.wrap (bt a0 a1) = c := (i64_w _).trans hc
 rw [hc] at h
 clear hc
 simp only [ge_iff_le] at h
 cases e1 : decide (c < 128) <;> cases e2 : decide (192 ≤ c) <;> cases e3 : decide (c < 224) <;> cases e4 : decide (224 ≤ c) <;> cases e5 : decide (c < 240) <;> cases e6 : decide (240 ≤ c) <;> cases e7 : decide (c < 248)
 all_goals
  have q1 := e1; have q2 := e2; have q3 := e3; have q4 := e4; have q5 := e5; have q6 := e6; have q7 := e7
  simp only [decide_eq_true_eq, decide_eq_false_iff_not] at q1 q2 q3 q4 q5 q6 q7
  try (exfalso; clear h hx hw p1 p2; omega)
 all_goals
  rcases k with _ | _ | _ | _ | _ | _ | _ | k <;> simp only [q1, q2, q4, q6, e3, e5, e7, gantletref14_char.j0, gantletref14_char.j1, gantletref14_char.j2, gantletref14_char.j3, gantletref14_char.j4, gantletref14_char.j5, gantletref14_char.j6, if_true, if_false, ge_iff_le, gt_iff_lt, Bool.false_eq_true, reduceIte, reduceCtorEq, show ¬ (2 : Int) = 0 by decide, show ¬ (3 : Int) = 0 by decide, show ¬ (4 : Int) = 0 by decide] at h
 all_goals clear q1 q2 q3 q4 q5 q6 q7
 all_goals
  try
   (obtain rfl := Option.some.inj h
    go_enter Try.func66, Try.ntmps66
    go_wp2
    go_ret
    exact ⟨rfl, zz1⟩)
 all_goals
  split at h
  ·
   rename_i f
   obtain rfl := Option.some.inj h
   go_enter Try.func66, Try.ntmps66
   go_wp2
   go_ret
   exact ⟨rfl, zz1⟩
  ·
   rename_i f
   replace f := Bool.eq_false_iff.mpr f
   obtain ⟨s, hs, H⟩ : ∃ s', s' = _ ∧ gantletref14_char.l0 k a0 a1 s' _ 1 = some r := ⟨_, rfl, h⟩
   have H' := Aside0.mk H
   have HS := Aside0.mk hs
   clear h H hs
   go_enter Try.func66, Try.ntmps66
   go_wp2
   go_loopg [7, 8] k (fun gk v7 v8 w' => ∃ (x7 x8 : Int), v7 = .int .i64 x7 ∧ v8 = .int .i64 x8 ∧ Aside0 (gantletref14_char.l0 gk a0 a1 s x7 x8 = some r) ∧ Drawn0 w w')
   case atStart => exact ⟨_, 1, rfl, rfl, H', zz1⟩
   case round =>
    clear H' f e1 e2 e3 e4 e5 e6 e7 hx p1 p2
    obtain ⟨x7, x8, rfl, rfl, HA, ⟨m8, rfl⟩⟩ := hrel
    obtain rfl := HS.out
    cases gk with
    | zero => exact absurd HA.out (by simp [gantletref14_char.l0])
    | succ k8 =>
      have H := HA.out
      clear HA
      obtain ⟨j, hj⟩ : ∃ j : Int, wrap64 (a1 + x8) = j := ⟨_, rfl⟩
      have hjw : IntKind.i64.wrap (a1 + x8) = j := (i64_w _).trans hj
      obtain ⟨b, hb⟩ : ∃ b : Int, wrap64 (bt a0 j) = b := ⟨_, rfl⟩
      have hbw : IntKind.i64.wrap (bt a0 j) = b := (i64_w _).trans hb
      simp only [gantletref14_char.l0, hj, hb, gt_iff_lt, ge_iff_le] at H
      clear hj hb
      split at H
      ·
       rename_i c1
       replace c1 := decide_eq_true c1
       split at H
       case isFalse => cases H
       rename_i c2
       split at H
       case isFalse => cases H
       rename_i c3
       have hx := bt_at a0 j
       replace c2 := eq_true c2
       replace c3 := eq_true c3
       split at H
       ·
        rename_i c4
        replace c4 := decide_eq_true c4
        obtain rfl := Option.some.inj H
        go_wp2
        go_ret
        exact ⟨rfl, zz1⟩
       rename_i c4
       replace c4 := decide_eq_false c4
       split at H
       ·
        rename_i c5
        replace c5 := decide_eq_true c5
        obtain rfl := Option.some.inj H
        go_wp2
        go_ret
        exact ⟨rfl, zz1⟩
       rename_i c5
       replace c5 := decide_eq_false c5
       have H' := Aside0.mk H
       clear H
       go_wp2
       go_roundg k8
       case measure => omega
       case rel => exact ⟨_, _, zz37, zz37, H', zz1⟩
      ·
       rename_i c1
       replace c1 := decide_eq_false c1
       simp only [show ¬ (2 : Int) = 3 by decide, show ¬ (2 : Int) = 4 by decide, show ¬ (3 : Int) = 2 by decide, show ¬ (3 : Int) = 4 by decide, show ¬ (4 : Int) = 2 by decide, show ¬ (4 : Int) = 3 by decide, if_true, if_false] at H
       all_goals try (split at H <;> rename_i g1 <;> first | replace g1 := decide_eq_false g1 | replace g1 := decide_eq_true g1)
       all_goals try (split at H <;> rename_i g2 <;> first | replace g2 := decide_eq_false g2 | replace g2 := decide_eq_true g2)
       all_goals try (split at H <;> rename_i g3 <;> first | replace g3 := decide_eq_false g3 | replace g3 := decide_eq_true g3)
       all_goals try (split at H <;> rename_i g4 <;> first | replace g4 := decide_eq_false g4 | replace g4 := decide_eq_true g4)
       all_goals
        obtain rfl := Option.some.inj H
        go_wp2
        go_ret
        exact ⟨rfl, zz1⟩
end Go.Proofs.Ytpfconocipmcjaa.PC
namespace Go.Proofs.Ytpfconocipmcjaa.PC
open RowKit YtpfconocipmcjaaW.PrintWords YtpfconocipmcjaaW.PrintLast YtpfconocipmcjaaW.PrintMore
attribute [local go_sem] max2_int min2_int max_two min_two max_three min_three max_four min_four
set_option linter.unusedVariables false
set_option linter.unusedSimpArgs false
def gantletref14_Utf8.l0 : Nat → ByteArray → Int → Option (Bool)
 | 0, _, _ => none
 | k + 1, x0, x3 => if x3 < (x0.size : Int) then ((gantletref14_char.f k x0 x3).bind fun t244 => (if t244 = 0 then (some false) else (gantletref14_Utf8.l0 k x0 (wrap64 (x3 + t244))))) else (some true)
def gantletref14_Utf8.f (k : Nat) (a0 : ByteArray) : Option (Bool) := gantletref14_Utf8.l0 k a0 0
set_option maxHeartbeats 8000000 in
set_option maxRecDepth 100000 in
theorem gantletref14_Utf8.calls (k : Nat) (a0 : ByteArray) (r : Bool) (w : World) (h : gantletref14_Utf8.f k a0 = some r) :
 Calls Try.prog 76 #[.string a0] w fun e w' => e = .returned (.bool r) ∧ Drawn0 w w' := by
 have H : (gantletref14_Utf8.l0 k a0 0) = some r := h
 clear h
 have H' := Aside0.mk H
 clear H
 go_enter Try.func76, Try.ntmps76
 go_wp2
 go_loopg [3] k (fun kq v3 w' => ∃ (x3_1 : Int), v3 = .int .i64 x3_1 ∧ Aside0 (gantletref14_Utf8.l0 kq a0 x3_1 = some r) ∧ Aside0 (kq ≤ k) ∧ Drawn0 w w')
 case atStart => exact ⟨(0), zz0, H', ⟨Nat.le_refl _⟩, zz1⟩
 case round =>
  clear H'
  obtain ⟨x3_1, rfl, HA, HK1, ⟨m1, rfl⟩⟩ := hrel
  cases gk with
  | zero => exact absurd HA.out (by simp [gantletref14_Utf8.l0])
  | succ k1 =>
    have H := HA.out
    clear HA
    simp only [gantletref14_Utf8.l0] at H
    by_cases c2 : x3_1 < (a0.size : Int)
    ·
     rw [if_pos c2] at H
     have c2b0 := decide_eq_true c2
     clear c2
     replace H := Option.bind_eq_some_iff.mp H
     obtain ⟨t244, A30, H⟩ := H
     replace H : (if t244 = 0 then (some false) else (gantletref14_Utf8.l0 k1 a0 (wrap64 (x3_1 + t244)))) = some r := H
     have A3 := Aside0.mk A30
     clear A30
     by_cases c4 : t244 = 0
     ·
      rw [if_pos c4] at H
      have c4b0 := beq_iff_eq.mpr c4
      have c4b1 := bne_eq_false_iff_eq.mpr c4
      clear c4
      obtain rfl := Option.some.inj H
      go_wp2_with (first | ((with_reducible refine gate_callee (f := 66) rfl ?_); refine goesL_ (some 11) rfl rfl Try.func66 zz8 rfl #[.string a0, .int .i64 x3_1] rfl zz5 ?_; (with_reducible refine (gantletref14_char.calls k1 a0 x3_1 t244 _ A3.out).mono ?_); rintro e w' ⟨rfl, ⟨nd, rfl⟩⟩; refine ⟨_, rfl, ?_⟩))
      go_ret
      exact ⟨zz0, zz1⟩
     ·
      rw [if_neg c4] at H
      have c4b0 := beq_eq_false_iff_ne.mpr c4
      have c4b1 := bne_iff_ne.mpr c4
      have H' := Aside0.mk H
      clear H
      go_wp2_with (first | ((with_reducible refine gate_callee (f := 66) rfl ?_); refine goesL_ (some 11) rfl rfl Try.func66 zz8 rfl #[.string a0, .int .i64 x3_1] rfl zz5 ?_; (with_reducible refine (gantletref14_char.calls k1 a0 x3_1 t244 _ A3.out).mono ?_); rintro e w' ⟨rfl, ⟨nd, rfl⟩⟩; refine ⟨_, rfl, ?_⟩))
      go_roundg k1
      case measure => have := HK1.out; omega
      case rel => exact ⟨(wrap64 (x3_1 + t244)), zz0, H', ⟨zz59⟩, zz1⟩
    ·
     rw [if_neg c2] at H
     have c2b0 := decide_eq_false c2
     clear c2
     obtain rfl := Option.some.inj H
     go_wp2
     go_ret
     exact ⟨zz0, zz1⟩
end Go.Proofs.Ytpfconocipmcjaa.PC
namespace Go.Proofs.Ytpfconocipmcjaa.PC
open RowKit YtpfconocipmcjaaW.PrintWords YtpfconocipmcjaaW.PrintLast YtpfconocipmcjaaW.PrintMore
attribute [local go_sem] max2_int min2_int max_two min_two max_three min_three max_four min_four
set_option linter.unusedVariables false
set_option linter.unusedSimpArgs false
mutual
def gantletref14_plain.j0 : Nat → Int → Bool → Option (Bool)
 | 0, _, _ => none
 | k + 1, x1, x34 => if x34 = true then (some true) else (gantletref14_plain.l0 k x1 (⟨#[32, 39, 40, 41, 43, 44, 45, 46, 47, 58, 61, 63]⟩ : ByteArray) 0)
def gantletref14_plain.l0 : Nat → Int → ByteArray → Int → Option (Bool)
 | 0, _, _, _ => none
 | k + 1, x1, x5, x6 => if x6 < (x5.size : Int) then (if 0 ≤ x6 then (if (bt x5 x6) = x1 then (some true) else (gantletref14_plain.l0 k x1 x5 (wrap64 (x6 + 1)))) else (none)) else (some false)
end
def gantletref14_plain.f (k : Nat) (a0 : Int) (a1 : Int) : Option (Bool) := if a0 = 22 then (some (decide (a1 < 128))) else (if a0 = 19 then (if a1 ≥ 65 then (if a1 ≤ 90 then (gantletref14_plain.j0 k a1 true) else (if a1 ≥ 97 then (if a1 ≤ 122 then (gantletref14_plain.j0 k a1 true) else (if a1 ≥ 48 then (gantletref14_plain.j0 k a1 (decide (a1 ≤ 57))) else (gantletref14_plain.j0 k a1 false))) else (if a1 ≥ 48 then (gantletref14_plain.j0 k a1 (decide (a1 ≤ 57))) else (gantletref14_plain.j0 k a1 false)))) else (if a1 ≥ 97 then (if a1 ≤ 122 then (gantletref14_plain.j0 k a1 true) else (if a1 ≥ 48 then (gantletref14_plain.j0 k a1 (decide (a1 ≤ 57))) else (gantletref14_plain.j0 k a1 false))) else (if a1 ≥ 48 then (gantletref14_plain.j0 k a1 (decide (a1 ≤ 57))) else (gantletref14_plain.j0 k a1 false)))) else (some true))
theorem gantletref14_plain.mono_l : ∀ k, (∀ y0 y1, LeO (gantletref14_plain.j0 k y0 y1) (gantletref14_plain.j0 (k + 1) y0 y1)) ∧ (∀ y0 y1 y2, LeO (gantletref14_plain.l0 k y0 y1 y2) (gantletref14_plain.l0 (k + 1) y0 y1 y2))
 | 0 => ⟨fun _ _ r h => by simp [gantletref14_plain.j0] at h, fun _ _ _ r h => by simp [gantletref14_plain.l0] at h⟩
 | k + 1 => by
   obtain ⟨ih0, ih1⟩ := gantletref14_plain.mono_l k
   refine ⟨?_, ?_⟩
   ·
    intro y0 y1
    unfold gantletref14_plain.j0
    repeat' first
    | (with_reducible exact ih0 _ _)
    | (with_reducible exact ih1 _ _ _)
    | (with_reducible exact LeO.refl _)
    | (with_reducible exact LeO.none _)
    | (with_reducible refine LeO.ite ?_ ?_)
    | (with_reducible refine LeO.bind ?_ (fun _ => ?_))
    | exact ih0 _ _
    | exact ih1 _ _ _
    | exact LeO.none _
    | refine LeO.ite ?_ ?_
    | refine LeO.bind ?_ (fun _ => ?_)
   ·
    intro y0 y1 y2
    unfold gantletref14_plain.l0
    repeat' first
    | (with_reducible exact ih0 _ _)
    | (with_reducible exact ih1 _ _ _)
    | (with_reducible exact LeO.refl _)
    | (with_reducible exact LeO.none _)
    | (with_reducible refine LeO.ite ?_ ?_)
    | (with_reducible refine LeO.bind ?_ (fun _ => ?_))
    | exact ih0 _ _
    | exact ih1 _ _ _
    | exact LeO.none _
    | refine LeO.ite ?_ ?_
    | refine LeO.bind ?_ (fun _ => ?_)
theorem gantletref14_plain.mono : ∀ a0 a1 k, LeO (gantletref14_plain.f k a0 a1) (gantletref14_plain.f (k + 1) a0 a1) := by
 intro a0 a1 k
 obtain ⟨ih0, ih1⟩ := gantletref14_plain.mono_l k
 unfold gantletref14_plain.f
 repeat' first
  | (with_reducible exact ih0 _ _)
  | (with_reducible exact ih1 _ _ _)
  | (with_reducible exact LeO.refl _)
  | (with_reducible exact LeO.none _)
  | (with_reducible refine LeO.ite ?_ ?_)
  | (with_reducible refine LeO.bind ?_ (fun _ => ?_))
  | exact ih0 _ _
  | exact ih1 _ _ _
  | exact LeO.none _
  | refine LeO.ite ?_ ?_
  | refine LeO.bind ?_ (fun _ => ?_)
set_option maxHeartbeats 8000000 in
set_option maxRecDepth 100000 in
theorem gantletref14_plain.calls (k : Nat) (a0 : Int) (a1 : Int) (r : Bool) (w : World) (h : gantletref14_plain.f k a0 a1 = some r) :
 Calls Try.prog 77 #[.int .i64 a0, .int .u8 a1] w fun e w' => e = .returned (.bool r) ∧ Drawn0 w w' := by
 have H : (if a0 = 22 then (some (decide (a1 < 128))) else (if a0 = 19 then (if a1 ≥ 65 then (if a1 ≤ 90 then (gantletref14_plain.j0 k a1 true) else (if a1 ≥ 97 then (if a1 ≤ 122 then (gantletref14_plain.j0 k a1 true) else (if a1 ≥ 48 then (gantletref14_plain.j0 k a1 (decide (a1 ≤ 57))) else (gantletref14_plain.j0 k a1 false))) else (if a1 ≥ 48 then (gantletref14_plain.j0 k a1 (decide (a1 ≤ 57))) else (gantletref14_plain.j0 k a1 false)))) else (if a1 ≥ 97 then (if a1 ≤ 122 then (gantletref14_plain.j0 k a1 true) else (if a1 ≥ 48 then (gantletref14_plain.j0 k a1 (decide (a1 ≤ 57))) else (gantletref14_plain.j0 k a1 false))) else (if a1 ≥ 48 then (gantletref14_plain.j0 k a1 (decide (a1 ≤ 57))) else (gantletref14_plain.j0 k a1 false)))) else (some true))) = some r := h
 clear h
 by_cases c3 : a0 = 22
 ·
  rw [if_pos c3] at H
  have c3b0 := beq_iff_eq.mpr c3
  have c3b1 := bne_eq_false_iff_eq.mpr c3
  clear c3
  obtain rfl := Option.some.inj H
  go_enter Try.func77, Try.ntmps77
  go_wp2
  go_ret
  exact ⟨zz0, zz1⟩
 ·
  rw [if_neg c3] at H
  have c3b0 := beq_eq_false_iff_ne.mpr c3
  have c3b1 := bne_iff_ne.mpr c3
  by_cases c4 : a0 = 19
  ·
   rw [if_pos c4] at H
   have c4b0 := beq_iff_eq.mpr c4
   have c4b1 := bne_eq_false_iff_eq.mpr c4
   clear c4
   have HC5 := Aside0.mk H
   clear H
   go_enter Try.func77, Try.ntmps77
   go_upto_region 5 with (fail)
   go_cut [34] (fun v34 wc => ∃ (kq : Nat) (x34_4 : Bool), v34 = .bool x34_4 ∧ Aside0 (gantletref14_plain.j0 kq a1 x34_4 = some r) ∧ Aside0 (kq ≤ k) ∧ Drawn0 w wc)
   case first =>
    have H := HC5.out
    clear HC5
    by_cases c6 : a1 ≥ 65
    ·
     rw [if_pos c6] at H
     have c6b0 : decide (65 ≤ a1) = true := decide_eq_true c6
     clear c6
     (first | rw [c6b0] | (simp only [i64_w, i32_w]; rw [c6b0]) | skip)
     by_cases c7 : a1 ≤ 90
     ·
      rw [if_pos c7] at H
      have c7b0 := decide_eq_true c7
      clear c7
      have H' := Aside0.mk H
      clear H
      go_wp2
      go_meet
      case rel => exact ⟨_, (true), zz0, H', ⟨zz30⟩, zz1⟩
     ·
      rw [if_neg c7] at H
      have c7b0 := decide_eq_false c7
      clear c7
      by_cases c8 : a1 ≥ 97
      ·
       rw [if_pos c8] at H
       have c8b0 : decide (97 ≤ a1) = true := decide_eq_true c8
       clear c8
       by_cases c9 : a1 ≤ 122
       ·
        rw [if_pos c9] at H
        have c9b0 := decide_eq_true c9
        clear c9
        have H' := Aside0.mk H
        clear H
        go_wp2
        go_meet
        case rel => exact ⟨_, (true), zz0, H', ⟨zz30⟩, zz1⟩
       ·
        rw [if_neg c9] at H
        have c9b0 := decide_eq_false c9
        clear c9
        by_cases c10 : a1 ≥ 48
        ·
         rw [if_pos c10] at H
         have c10b0 : decide (48 ≤ a1) = true := decide_eq_true c10
         clear c10
         have H' := Aside0.mk H
         clear H
         go_wp2
         go_meet
         case rel => exact ⟨_, (decide (a1 ≤ 57)), zz0, H', ⟨zz30⟩, zz1⟩
        ·
         rw [if_neg c10] at H
         have c10b0 : decide (48 ≤ a1) = false := decide_eq_false c10
         clear c10
         have H' := Aside0.mk H
         clear H
         go_wp2
         go_meet
         case rel => exact ⟨_, (false), zz0, H', ⟨zz30⟩, zz1⟩
      ·
       rw [if_neg c8] at H
       have c8b0 : decide (97 ≤ a1) = false := decide_eq_false c8
       clear c8
       by_cases c11 : a1 ≥ 48
       ·
        rw [if_pos c11] at H
        have c11b0 : decide (48 ≤ a1) = true := decide_eq_true c11
        clear c11
        have H' := Aside0.mk H
        clear H
        go_wp2
        go_meet
        case rel => exact ⟨_, (decide (a1 ≤ 57)), zz0, H', ⟨zz30⟩, zz1⟩
       ·
        rw [if_neg c11] at H
        have c11b0 : decide (48 ≤ a1) = false := decide_eq_false c11
        clear c11
        have H' := Aside0.mk H
        clear H
        go_wp2
        go_meet
        case rel => exact ⟨_, (false), zz0, H', ⟨zz30⟩, zz1⟩
    ·
     rw [if_neg c6] at H
     have c6b0 : decide (65 ≤ a1) = false := decide_eq_false c6
     clear c6
     (first | rw [c6b0] | (simp only [i64_w, i32_w]; rw [c6b0]) | skip)
     by_cases c12 : a1 ≥ 97
     ·
      rw [if_pos c12] at H
      have c12b0 : decide (97 ≤ a1) = true := decide_eq_true c12
      clear c12
      by_cases c13 : a1 ≤ 122
      ·
       rw [if_pos c13] at H
       have c13b0 := decide_eq_true c13
       clear c13
       have H' := Aside0.mk H
       clear H
       go_wp2
       go_meet
       case rel => exact ⟨_, (true), zz0, H', ⟨zz30⟩, zz1⟩
      ·
       rw [if_neg c13] at H
       have c13b0 := decide_eq_false c13
       clear c13
       by_cases c14 : a1 ≥ 48
       ·
        rw [if_pos c14] at H
        have c14b0 : decide (48 ≤ a1) = true := decide_eq_true c14
        clear c14
        have H' := Aside0.mk H
        clear H
        go_wp2
        go_meet
        case rel => exact ⟨_, (decide (a1 ≤ 57)), zz0, H', ⟨zz30⟩, zz1⟩
       ·
        rw [if_neg c14] at H
        have c14b0 : decide (48 ≤ a1) = false := decide_eq_false c14
        clear c14
        have H' := Aside0.mk H
        clear H
        go_wp2
        go_meet
        case rel => exact ⟨_, (false), zz0, H', ⟨zz30⟩, zz1⟩
     ·
      rw [if_neg c12] at H
      have c12b0 : decide (97 ≤ a1) = false := decide_eq_false c12
      clear c12
      by_cases c15 : a1 ≥ 48
      ·
       rw [if_pos c15] at H
       have c15b0 : decide (48 ≤ a1) = true := decide_eq_true c15
       clear c15
       have H' := Aside0.mk H
       clear H
       go_wp2
       go_meet
       case rel => exact ⟨_, (decide (a1 ≤ 57)), zz0, H', ⟨zz30⟩, zz1⟩
      ·
       rw [if_neg c15] at H
       have c15b0 : decide (48 ≤ a1) = false := decide_eq_false c15
       clear c15
       have H' := Aside0.mk H
       clear H
       go_wp2
       go_meet
       case rel => exact ⟨_, (false), zz0, H', ⟨zz30⟩, zz1⟩
   case rest =>
    clear HC5
    try clear c3
    try clear c3b0
    try clear c3b1
    try clear c4b0
    try clear c4b1
    obtain ⟨kq, x34_4, rfl, HA, HJ4, ⟨mc4, rfl⟩⟩ := hcut
    cases kq with
    | zero => exact absurd HA.out (by simp [gantletref14_plain.j0])
    | succ kj4 =>
      have H := HA.out
      clear HA
      simp only [gantletref14_plain.j0] at H
      by_cases c16 : x34_4 = true
      ·
       subst c16
       rw [if_pos rfl] at H
       obtain rfl := Option.some.inj H
       go_wp2
       go_ret
       exact ⟨zz0, zz1⟩
      ·
       replace c16 := Bool.eq_false_iff.mpr c16
       subst c16
       rw [if_neg (show ¬ (false = true) by decide)] at H
       have H' := Aside0.mk H
       clear H
       go_wp2
       go_loopg [6] kj4 (fun kq v6 w' => ∃ (x6_2 : Int), v6 = .int .i64 x6_2 ∧ Aside0 (gantletref14_plain.l0 kq a1 (⟨#[32, 39, 40, 41, 43, 44, 45, 46, 47, 58, 61, 63]⟩ : ByteArray) x6_2 = some r) ∧ Aside0 (kq ≤ kj4) ∧ Drawn0 w w')
       case atStart => exact ⟨(0), zz0, H', ⟨Nat.le_refl _⟩, zz1⟩
       case round =>
        clear H'
        try clear c16
        obtain ⟨x6_2, rfl, HA, HK2, ⟨m2, rfl⟩⟩ := hrel
        cases gk with
        | zero => exact absurd HA.out (by simp [gantletref14_plain.l0])
        | succ k2 =>
          have H := HA.out
          clear HA
          simp only [gantletref14_plain.l0] at H
          by_cases c17 : x6_2 < ((⟨#[32, 39, 40, 41, 43, 44, 45, 46, 47, 58, 61, 63]⟩ : ByteArray).size : Int)
          ·
           rw [if_pos c17] at H
           have c17b0 := decide_eq_true c17
           (try (have c17v0 : decide (x6_2 < 12) = true := c17b0))
           clear c17
           by_cases c18 : 0 ≤ x6_2
           ·
            rw [if_pos c18] at H
            have c18b0 := decide_eq_true c18
            clear c18
            by_cases c20 : (bt (⟨#[32, 39, 40, 41, 43, 44, 45, 46, 47, 58, 61, 63]⟩ : ByteArray) x6_2) = a1
            ·
             rw [if_pos c20] at H
             have c20b0 := beq_iff_eq.mpr c20
             have c20b1 := bne_eq_false_iff_eq.mpr c20
             clear c20
             obtain rfl := Option.some.inj H
             have p19 : 0 ≤ (x6_2 : Int) := of_decide_eq_true zz4
             have q19 : x6_2 < (12 : Int) := of_decide_eq_true zz4
             have hx19 := bt_at (⟨#[32, 39, 40, 41, 43, 44, 45, 46, 47, 58, 61, 63]⟩ : ByteArray) x6_2
             replace p19 := eq_true p19
             replace q19 := eq_true q19
             go_wp2
             go_ret
             exact ⟨zz0, zz1⟩
            ·
             rw [if_neg c20] at H
             have c20b0 := beq_eq_false_iff_ne.mpr c20
             have c20b1 := bne_iff_ne.mpr c20
             have H' := Aside0.mk H
             clear H
             have p19 : 0 ≤ (x6_2 : Int) := of_decide_eq_true zz4
             have q19 : x6_2 < (12 : Int) := of_decide_eq_true zz4
             have hx19 := bt_at (⟨#[32, 39, 40, 41, 43, 44, 45, 46, 47, 58, 61, 63]⟩ : ByteArray) x6_2
             replace p19 := eq_true p19
             replace q19 := eq_true q19
             go_wp2
             go_roundg k2
             case measure => have := HJ4.out; have := HK2.out; omega
             case rel => exact ⟨(wrap64 (x6_2 + 1)), zz0, H', ⟨by have := HJ4.out; have := HK2.out; omega⟩, zz1⟩
           ·
            rw [if_neg c18] at H
            exact absurd H zz29
          ·
           rw [if_neg c17] at H
           have c17b0 := decide_eq_false c17
           (try (have c17v0 : decide (x6_2 < 12) = false := c17b0))
           clear c17
           obtain rfl := Option.some.inj H
           go_wp2
           go_ret
           exact ⟨zz0, zz1⟩
  ·
   rw [if_neg c4] at H
   have c4b0 := beq_eq_false_iff_ne.mpr c4
   have c4b1 := bne_iff_ne.mpr c4
   obtain rfl := Option.some.inj H
   go_enter Try.func77, Try.ntmps77
   go_wp2
   go_ret
   exact ⟨zz0, zz1⟩
end Go.Proofs.Ytpfconocipmcjaa.PC
namespace Go.Proofs.Ytpfconocipmcjaa.PC
open RowKit YtpfconocipmcjaaW.PrintWords YtpfconocipmcjaaW.PrintLast YtpfconocipmcjaaW.PrintMore
attribute [local go_sem] max2_int min2_int max_two min_two max_three min_three max_four min_four
set_option linter.unusedVariables false
set_option linter.unusedSimpArgs false
def gantletref14_Check.l0 : Nat → Int → ByteArray → Int → Option (Bool)
 | 0, _, _, _ => none
 | k + 1, x0, x1, x5 => if x5 < (x1.size : Int) then (if 0 ≤ x5 then ((gantletref14_plain.f k x0 (bt x1 x5)).bind fun t246 => (if t246 = true then (gantletref14_Check.l0 k x0 x1 (wrap64 (x5 + 1))) else (some false))) else (none)) else (some true)
def gantletref14_Check.f (k : Nat) (a0 : Int) (a1 : ByteArray) : Option (Bool) := if a0 = 12 then ((gantletref14_Utf8.f k a1).bind fun t245 => (some t245)) else (gantletref14_Check.l0 k a0 a1 0)
set_option maxHeartbeats 8000000 in
set_option maxRecDepth 100000 in
theorem gantletref14_Check.calls (k : Nat) (a0 : Int) (a1 : ByteArray) (r : Bool) (w : World) (h : gantletref14_Check.f k a0 a1 = some r) :
 Calls Try.prog 64 #[.int .i64 a0, .string a1] w fun e w' => e = .returned (.bool r) ∧ Drawn0 w w' := by
 have H : (if a0 = 12 then ((gantletref14_Utf8.f k a1).bind fun t245 => (some t245)) else (gantletref14_Check.l0 k a0 a1 0)) = some r := h
 clear h
 by_cases c3 : a0 = 12
 ·
  rw [if_pos c3] at H
  have c3b0 := beq_iff_eq.mpr c3
  have c3b1 := bne_eq_false_iff_eq.mpr c3
  clear c3
  replace H := Option.bind_eq_some_iff.mp H
  obtain ⟨t245, A40, H⟩ := H
  replace H : (some t245) = some r := H
  have A4 := Aside0.mk A40
  clear A40
  obtain rfl := Option.some.inj H
  go_enter Try.func64, Try.ntmps64
  go_wp2_with (first | ((with_reducible refine gate_callee (f := 76) rfl ?_); refine goesL_ (some 9) rfl rfl Try.func76 zz8 rfl #[.string a1] rfl zz5 ?_; (with_reducible refine (gantletref14_Utf8.calls k a1 t245 _ A4.out).mono ?_); rintro e w' ⟨rfl, ⟨nd, rfl⟩⟩; refine ⟨_, rfl, ?_⟩))
  go_ret
  exact ⟨zz0, zz1⟩
 ·
  rw [if_neg c3] at H
  have c3b0 := beq_eq_false_iff_ne.mpr c3
  have c3b1 := bne_iff_ne.mpr c3
  have H' := Aside0.mk H
  clear H
  go_enter Try.func64, Try.ntmps64
  go_wp2
  go_loopg [5] k (fun kq v5 w' => ∃ (x5_1 : Int), v5 = .int .i64 x5_1 ∧ Aside0 (gantletref14_Check.l0 kq a0 a1 x5_1 = some r) ∧ Aside0 (kq ≤ k) ∧ Drawn0 w w')
  case atStart => exact ⟨(0), zz0, H', ⟨Nat.le_refl _⟩, zz1⟩
  case round =>
   clear H'
   try clear c3
   try clear c3b0
   try clear c3b1
   obtain ⟨x5_1, rfl, HA, HK1, ⟨m1, rfl⟩⟩ := hrel
   cases gk with
   | zero => exact absurd HA.out (by simp [gantletref14_Check.l0])
   | succ k1 =>
     have H := HA.out
     clear HA
     simp only [gantletref14_Check.l0] at H
     by_cases c5 : x5_1 < (a1.size : Int)
     ·
      rw [if_pos c5] at H
      have c5b0 := decide_eq_true c5
      clear c5
      by_cases c6 : 0 ≤ x5_1
      ·
       rw [if_pos c6] at H
       have c6b0 := decide_eq_true c6
       clear c6
       replace H := Option.bind_eq_some_iff.mp H
       obtain ⟨t246, A80, H⟩ := H
       replace H : (if t246 = true then (gantletref14_Check.l0 k1 a0 a1 (wrap64 (x5_1 + 1))) else (some false)) = some r := H
       have A8 := Aside0.mk A80
       clear A80
       by_cases c9 : t246 = true
       ·
        subst c9
        rw [if_pos rfl] at H
        have H' := Aside0.mk H
        clear H
        have p7 : 0 ≤ (x5_1 : Int) := of_decide_eq_true zz4
        have q7 : x5_1 < (a1.size : Int) := of_decide_eq_true zz4
        have hx7 := bt_at a1 x5_1
        replace p7 := eq_true p7
        replace q7 := eq_true q7
        go_wp2_with (first | ((with_reducible refine gate_callee (f := 77) rfl ?_); refine goesL_ (some 20) rfl rfl Try.func77 zz8 rfl #[.int .i64 a0, .int .u8 (bt a1 x5_1)] rfl zz5 ?_; (with_reducible refine (gantletref14_plain.calls k1 a0 (bt a1 x5_1) true _ A8.out).mono ?_); rintro e w' ⟨rfl, ⟨nd, rfl⟩⟩; refine ⟨_, rfl, ?_⟩))
        go_roundg k1
        case measure => have := HK1.out; omega
        case rel => exact ⟨(wrap64 (x5_1 + 1)), zz0, H', ⟨zz59⟩, zz1⟩
       ·
        replace c9 := Bool.eq_false_iff.mpr c9
        subst c9
        rw [if_neg (show ¬ (false = true) by decide)] at H
        obtain rfl := Option.some.inj H
        have p7 : 0 ≤ (x5_1 : Int) := of_decide_eq_true zz4
        have q7 : x5_1 < (a1.size : Int) := of_decide_eq_true zz4
        have hx7 := bt_at a1 x5_1
        replace p7 := eq_true p7
        replace q7 := eq_true q7
        go_wp2_with (first | ((with_reducible refine gate_callee (f := 77) rfl ?_); refine goesL_ (some 20) rfl rfl Try.func77 zz8 rfl #[.int .i64 a0, .int .u8 (bt a1 x5_1)] rfl zz5 ?_; (with_reducible refine (gantletref14_plain.calls k1 a0 (bt a1 x5_1) false _ A8.out).mono ?_); rintro e w' ⟨rfl, ⟨nd, rfl⟩⟩; refine ⟨_, rfl, ?_⟩))
        go_ret
        exact ⟨zz0, zz1⟩
      ·
       rw [if_neg c6] at H
       exact absurd H zz29
     ·
      rw [if_neg c5] at H
      have c5b0 := decide_eq_false c5
      clear c5
      obtain rfl := Option.some.inj H
      go_wp2
      go_ret
      exact ⟨zz0, zz1⟩
def gantletref14_last.l0 : Nat → ByteArray → Int → Option (Int)
 | 0, _, _ => none
 | k + 1, x0, x3 => if x3 < (x0.size : Int) then ((gantletref14_char.f k x0 x3).bind fun t247 => (if t247 = 0 then (if (wrap64 ((x0.size : Int) - x3)) > 3 then (some (-1)) else (some x3)) else (gantletref14_last.l0 k x0 (wrap64 (x3 + t247))))) else (if (wrap64 ((x0.size : Int) - x3)) > 3 then (some (-1)) else (some x3))
def gantletref14_last.f (k : Nat) (a0 : ByteArray) : Option (Int) := gantletref14_last.l0 k a0 0
set_option maxHeartbeats 8000000 in
set_option maxRecDepth 100000 in
theorem gantletref14_last.calls (k : Nat) (a0 : ByteArray) (r : Int) (w : World) (h : gantletref14_last.f k a0 = some r) :
 Calls Try.prog 65 #[.string a0] w fun e w' => e = .returned (.int .i64 r) ∧ Drawn0 w w' := by
 have H : (gantletref14_last.l0 k a0 0) = some r := h
 clear h
 have H' := Aside0.mk H
 clear H
 go_enter Try.func65, Try.ntmps65
 go_wp2
 go_loopg [3] k (fun kq v3 w' => ∃ (x3_1 : Int), v3 = .int .i64 x3_1 ∧ Aside0 (gantletref14_last.l0 kq a0 x3_1 = some r) ∧ Aside0 (kq ≤ k) ∧ Drawn0 w w')
 case atStart => exact ⟨(0), zz0, H', ⟨Nat.le_refl _⟩, zz1⟩
 case round =>
  clear H'
  obtain ⟨x3_1, rfl, HA, HK1, ⟨m1, rfl⟩⟩ := hrel
  cases gk with
  | zero => exact absurd HA.out (by simp [gantletref14_last.l0])
  | succ k1 =>
    have H := HA.out
    clear HA
    simp only [gantletref14_last.l0] at H
    by_cases c2 : x3_1 < (a0.size : Int)
    ·
     rw [if_pos c2] at H
     have c2b0 := decide_eq_true c2
     clear c2
     replace H := Option.bind_eq_some_iff.mp H
     obtain ⟨t247, A30, H⟩ := H
     replace H : (if t247 = 0 then (if (wrap64 ((a0.size : Int) - x3_1)) > 3 then (some (-1)) else (some x3_1)) else (gantletref14_last.l0 k1 a0 (wrap64 (x3_1 + t247)))) = some r := H
     have A3 := Aside0.mk A30
     clear A30
     by_cases c4 : t247 = 0
     ·
      rw [if_pos c4] at H
      have c4b0 := beq_iff_eq.mpr c4
      have c4b1 := bne_eq_false_iff_eq.mpr c4
      clear c4
      by_cases c5 : (wrap64 ((a0.size : Int) - x3_1)) > 3
      ·
       rw [if_pos c5] at H
       have c5b0 : decide (3 < (wrap64 ((a0.size : Int) - x3_1))) = true := decide_eq_true c5
       (try (have c5w0 : decide (3 < (((a0.size : Int) - x3_1))) = true := by (have hw_ : wrap64 ((a0.size : Int) - x3_1) = ((a0.size : Int) - x3_1) := by (unfold wrap64; omega)); have hx_ := c5b0; rw [hw_] at hx_; exact hx_))
       clear c5
       obtain rfl := Option.some.inj H
       go_wp2_with (first | ((with_reducible refine gate_callee (f := 66) rfl ?_); refine goesL_ (some 11) rfl rfl Try.func66 zz8 rfl #[.string a0, .int .i64 x3_1] rfl zz5 ?_; (with_reducible refine (gantletref14_char.calls k1 a0 x3_1 t247 _ A3.out).mono ?_); rintro e w' ⟨rfl, ⟨nd, rfl⟩⟩; refine ⟨_, rfl, ?_⟩))
       go_ret
       exact ⟨zz0, zz1⟩
      ·
       rw [if_neg c5] at H
       have c5b0 : decide (3 < (wrap64 ((a0.size : Int) - x3_1))) = false := decide_eq_false c5
       (try (have c5w0 : decide (3 < (((a0.size : Int) - x3_1))) = false := by (have hw_ : wrap64 ((a0.size : Int) - x3_1) = ((a0.size : Int) - x3_1) := by (unfold wrap64; omega)); have hx_ := c5b0; rw [hw_] at hx_; exact hx_))
       clear c5
       obtain rfl := Option.some.inj H
       go_wp2_with (first | ((with_reducible refine gate_callee (f := 66) rfl ?_); refine goesL_ (some 11) rfl rfl Try.func66 zz8 rfl #[.string a0, .int .i64 x3_1] rfl zz5 ?_; (with_reducible refine (gantletref14_char.calls k1 a0 x3_1 t247 _ A3.out).mono ?_); rintro e w' ⟨rfl, ⟨nd, rfl⟩⟩; refine ⟨_, rfl, ?_⟩))
       go_ret
       exact ⟨zz0, zz1⟩
     ·
      rw [if_neg c4] at H
      have c4b0 := beq_eq_false_iff_ne.mpr c4
      have c4b1 := bne_iff_ne.mpr c4
      have H' := Aside0.mk H
      clear H
      go_wp2_with (first | ((with_reducible refine gate_callee (f := 66) rfl ?_); refine goesL_ (some 11) rfl rfl Try.func66 zz8 rfl #[.string a0, .int .i64 x3_1] rfl zz5 ?_; (with_reducible refine (gantletref14_char.calls k1 a0 x3_1 t247 _ A3.out).mono ?_); rintro e w' ⟨rfl, ⟨nd, rfl⟩⟩; refine ⟨_, rfl, ?_⟩))
      go_roundg k1
      case measure => have := HK1.out; omega
      case rel => exact ⟨(wrap64 (x3_1 + t247)), zz0, H', ⟨zz59⟩, zz1⟩
    ·
     rw [if_neg c2] at H
     have c2b0 := decide_eq_false c2
     clear c2
     by_cases c6 : (wrap64 ((a0.size : Int) - x3_1)) > 3
     ·
      rw [if_pos c6] at H
      have c6b0 : decide (3 < (wrap64 ((a0.size : Int) - x3_1))) = true := decide_eq_true c6
      (try (have c6w0 : decide (3 < (((a0.size : Int) - x3_1))) = true := by (have hw_ : wrap64 ((a0.size : Int) - x3_1) = ((a0.size : Int) - x3_1) := by (unfold wrap64; omega)); have hx_ := c6b0; rw [hw_] at hx_; exact hx_))
      clear c6
      obtain rfl := Option.some.inj H
      go_wp2
      go_ret
      exact ⟨zz0, zz1⟩
     ·
      rw [if_neg c6] at H
      have c6b0 : decide (3 < (wrap64 ((a0.size : Int) - x3_1))) = false := decide_eq_false c6
      (try (have c6w0 : decide (3 < (((a0.size : Int) - x3_1))) = false := by (have hw_ : wrap64 ((a0.size : Int) - x3_1) = ((a0.size : Int) - x3_1) := by (unfold wrap64; omega)); have hx_ := c6b0; rw [hw_] at hx_; exact hx_))
      clear c6
      obtain rfl := Option.some.inj H
      go_wp2
      go_ret
      exact ⟨zz0, zz1⟩
end Go.Proofs.Ytpfconocipmcjaa.PC
namespace Go.Proofs.Ytpfconocipmcjaa.PC
open RowKit YtpfconocipmcjaaW.PrintWords YtpfconocipmcjaaW.PrintLast YtpfconocipmcjaaW.PrintMore
attribute [local go_sem] max2_int min2_int max_two min_two max_three min_three max_four min_four
set_option linter.unusedVariables false
set_option linter.unusedSimpArgs false
mutual
def gantletref14_Can.l0 : Nat → Int → ByteArray → Int → Int → Option (Bool)
 | 0, _, _, _, _ => none
 | k + 1, x1, x2, x7, x8 => if x8 < 4 then (gantletref14_Can.j1 k x1 x2 x7 x8 (decide ((wrap64 ((x2.size : Int) + x8)) ≤ x1))) else (gantletref14_Can.j1 k x1 x2 x7 x8 false)
def gantletref14_Can.j1 : Nat → Int → ByteArray → Int → Int → Bool → Option (Bool)
 | 0, _, _, _, _, _ => none
 | k + 1, x1, x2, x7, x8, x36 => if x36 = true then (gantletref14_Can.l1 k x1 x2 x7 x8 0) else (some false)
def gantletref14_Can.l1 : Nat → Int → ByteArray → Int → Int → Int → Option (Bool)
 | 0, _, _, _, _, _ => none
 | k + 1, x1, x2, x7, x8, x9 => if x9 < 2 then (if 0 ≤ x7 then (if x7 ≤ (x2.size : Int) then (gantletref14_Can.l2 k x1 x2 x7 x8 x9 (x2.extract (x7 : Int).toNat x2.size) 0) else (none)) else (none)) else (gantletref14_Can.l0 k x1 x2 x7 (wrap64 (x8 + 1)))
def gantletref14_Can.l2 : Nat → Int → ByteArray → Int → Int → Int → ByteArray → Int → Option (Bool)
 | 0, _, _, _, _, _, _, _ => none
 | k + 1, x1, x2, x7, x8, x9, x10, x11 => if x11 < x8 then ((some (([(wrap64 (128 + (wrap64 (63 * x9)))) % 256] : List Int) : List Int)).bind fun y250 => (if x10.size + (strOfNums y250).size ≤ 9223372036854775807 then (gantletref14_Can.l2 k x1 x2 x7 x8 x9 (x10 ++ (strOfNums y250)) (wrap64 (x11 + 1))) else (none))) else ((gantletref14_char.f k x10 0).bind fun t253 => (if t253 = (x10.size : Int) then (some true) else (gantletref14_Can.l1 k x1 x2 x7 x8 (wrap64 (x9 + 1)))))
end
def gantletref14_Can.f (k : Nat) (a0 : Int) (a1 : Int) (a2 : ByteArray) : Option (Bool) := if a1 < 0 then (some false) else (if a0 = 12 then ((gantletref14_last.f k a2).bind fun t249 => (if t249 < 0 then (some false) else (if t249 = (a2.size : Int) then (some true) else (gantletref14_Can.l0 k a1 a2 t249 1)))) else ((gantletref14_Check.f k a0 a2).bind fun t248 => (some t248)))
set_option maxHeartbeats 8000000 in
set_option maxRecDepth 100000 in
theorem gantletref14_Can.calls (k : Nat) (a0 : Int) (a1 : Int) (a2 : ByteArray) (r : Bool) (w : World) (h : gantletref14_Can.f k a0 a1 a2 = some r) :
 Calls Try.prog 44 #[.int .i64 a0, .int .i64 a1, .string a2] w fun e w' => e = .returned (.bool r) ∧ Below w.heap.size w w' := by
 have HB := Aside0.mk (Below.refl w.heap.size w)
 have H : (if a1 < 0 then (some false) else (if a0 = 12 then ((gantletref14_last.f k a2).bind fun t249 => (if t249 < 0 then (some false) else (if t249 = (a2.size : Int) then (some true) else (gantletref14_Can.l0 k a1 a2 t249 1)))) else ((gantletref14_Check.f k a0 a2).bind fun t248 => (some t248)))) = some r := h
 clear h
 by_cases c4 : a1 < 0
 ·
  rw [if_pos c4] at H
  have c4b0 := decide_eq_true c4
  clear c4
  obtain rfl := Option.some.inj H
  go_enter Try.func44, Try.ntmps44
  go_wp2
  go_ret
  exact ⟨zz6, zz2⟩
 ·
  rw [if_neg c4] at H
  have c4b0 := decide_eq_false c4
  clear c4
  by_cases c5 : a0 = 12
  ·
   rw [if_pos c5] at H
   have c5b0 := beq_iff_eq.mpr c5
   have c5b1 := bne_eq_false_iff_eq.mpr c5
   clear c5
   replace H := Option.bind_eq_some_iff.mp H
   obtain ⟨t249, A60, H⟩ := H
   replace H : (if t249 < 0 then (some false) else (if t249 = (a2.size : Int) then (some true) else (gantletref14_Can.l0 k a1 a2 t249 1))) = some r := H
   have A6 := Aside0.mk A60
   clear A60
   by_cases c7 : t249 < 0
   ·
    rw [if_pos c7] at H
    have c7b0 := decide_eq_true c7
    clear c7
    obtain rfl := Option.some.inj H
    go_enter Try.func44, Try.ntmps44
    go_wp2_with (first | ((with_reducible refine gate_callee (f := 65) rfl ?_); refine goesL_ (some 20) rfl rfl Try.func65 zz8 rfl #[.string a2] rfl zz5 ?_; (with_reducible refine (gantletref14_last.calls k a2 t249 _ A6.out).mono ?_); rintro e w' ⟨rfl, ⟨nd, rfl⟩⟩; refine ⟨_, rfl, ?_⟩))
    go_ret
    exact ⟨zz6, zz2⟩
   ·
    rw [if_neg c7] at H
    have c7b0 := decide_eq_false c7
    clear c7
    by_cases c8 : t249 = (a2.size : Int)
    ·
     rw [if_pos c8] at H
     have c8b0 := beq_iff_eq.mpr c8
     have c8b1 := bne_eq_false_iff_eq.mpr c8
     clear c8
     obtain rfl := Option.some.inj H
     go_enter Try.func44, Try.ntmps44
     go_wp2_with (first | ((with_reducible refine gate_callee (f := 65) rfl ?_); refine goesL_ (some 20) rfl rfl Try.func65 zz8 rfl #[.string a2] rfl zz5 ?_; (with_reducible refine (gantletref14_last.calls k a2 t249 _ A6.out).mono ?_); rintro e w' ⟨rfl, ⟨nd, rfl⟩⟩; refine ⟨_, rfl, ?_⟩))
     go_ret
     exact ⟨zz6, zz2⟩
    ·
     rw [if_neg c8] at H
     have c8b0 := beq_eq_false_iff_ne.mpr c8
     have c8b1 := bne_iff_ne.mpr c8
     have H' := Aside0.mk H
     clear H
     go_enter Try.func44, Try.ntmps44
     go_wp2_with (first | ((with_reducible refine gate_callee (f := 65) rfl ?_); refine goesL_ (some 20) rfl rfl Try.func65 zz8 rfl #[.string a2] rfl zz5 ?_; (with_reducible refine (gantletref14_last.calls k a2 t249 _ A6.out).mono ?_); rintro e w' ⟨rfl, ⟨nd, rfl⟩⟩; refine ⟨_, rfl, ?_⟩))
     go_loopg [8] k (fun kq v8 w' => ∃ (x8_1 : Int), v8 = .int .i64 x8_1 ∧ Aside0 (gantletref14_Can.l0 kq a1 a2 t249 x8_1 = some r) ∧ Aside0 (kq ≤ k) ∧ Aside0 (Below w.heap.size w w'))
     case atStart => exact ⟨(1), zz0, H', ⟨Nat.le_refl _⟩, ⟨zz2⟩⟩
     case round =>
      clear H'
      try clear c4b0
      try clear c5b0
      try clear c5b1
      try clear c7b0
      try clear c8
      try clear c8b0
      try clear c8b1
      obtain ⟨x8_1, rfl, HA, HK1, HB⟩ := hrel
      cases gk with
      | zero => exact absurd HA.out (by simp [gantletref14_Can.l0])
      | succ k1 =>
        have H := HA.out
        clear HA
        simp only [gantletref14_Can.l0] at H
        have HC9 := Aside0.mk H
        clear H
        go_upto_region 11 with (fail)
        go_cut [36] (fun v36 wc => ∃ (kq : Nat) (x36_8 : Bool), v36 = .bool x36_8 ∧ Aside0 (gantletref14_Can.j1 kq a1 a2 t249 x8_1 x36_8 = some r) ∧ Aside0 (kq ≤ k1) ∧ Aside0 (Below w.heap.size w wc))
        case first =>
         have H := HC9.out
         clear HC9
         by_cases c10 : x8_1 < 4
         ·
          rw [if_pos c10] at H
          have c10b0 := decide_eq_true c10
          clear c10
          (first | rw [c10b0] | (simp only [i64_w, i32_w]; rw [c10b0]) | skip)
          have H' := Aside0.mk H
          clear H
          go_wp2
          go_meet
          case rel => exact ⟨_, (decide ((wrap64 ((a2.size : Int) + x8_1)) ≤ a1)), zz0, H', ⟨zz51⟩, ⟨zz2⟩⟩
         ·
          rw [if_neg c10] at H
          have c10b0 := decide_eq_false c10
          clear c10
          (first | rw [c10b0] | (simp only [i64_w, i32_w]; rw [c10b0]) | skip)
          have H' := Aside0.mk H
          clear H
          go_wp2
          go_meet
          case rel => exact ⟨_, (false), zz0, H', ⟨zz51⟩, ⟨zz2⟩⟩
        case rest =>
         clear HC9
         obtain ⟨kq, x36_8, rfl, HA, HJ8, HB⟩ := hcut
         cases kq with
         | zero => exact absurd HA.out (by simp [gantletref14_Can.j1])
         | succ kj8 =>
           have H := HA.out
           clear HA
           simp only [gantletref14_Can.j1] at H
           by_cases c11 : x36_8 = true
           ·
            subst c11
            rw [if_pos rfl] at H
            have H' := Aside0.mk H
            clear H
            go_wp2
            go_loopg [9] kj8 (fun kq v9 w' => ∃ (x9_3 : Int), v9 = .int .i64 x9_3 ∧ Aside0 (gantletref14_Can.l1 kq a1 a2 t249 x8_1 x9_3 = some r) ∧ Aside0 (kq ≤ kj8) ∧ Aside0 (Below w.heap.size w w'))
            case atStart => exact ⟨(0), zz0, H', ⟨Nat.le_refl _⟩, ⟨zz2⟩⟩
            case round =>
             clear H'
             try clear c11
             obtain ⟨x9_3, rfl, HA, HK3, HB⟩ := hrel
             cases gk with
             | zero => exact absurd HA.out (by simp [gantletref14_Can.l1])
             | succ k3 =>
               have H := HA.out
               clear HA
               simp only [gantletref14_Can.l1] at H
               by_cases c12 : x9_3 < 2
               ·
                rw [if_pos c12] at H
                have c12b0 := decide_eq_true c12
                clear c12
                by_cases c13 : 0 ≤ t249
                ·
                 rw [if_pos c13] at H
                 have c13b0 := eq_true c13
                 have c13b1 := decide_eq_true c13
                 clear c13
                 by_cases c14 : t249 ≤ (a2.size : Int)
                 ·
                  rw [if_pos c14] at H
                  have c14b0 := eq_true c14
                  have c14b1 := decide_eq_true c14
                  clear c14
                  have H' := Aside0.mk H
                  clear H
                  go_wp2
                  go_loopg [10, 11] k3 (fun kq v10 v11 w' => ∃ (x10_4 : ByteArray) (x11_4 : Int), v10 = .string x10_4 ∧ v11 = .int .i64 x11_4 ∧ Aside0 (gantletref14_Can.l2 kq a1 a2 t249 x8_1 x9_3 x10_4 x11_4 = some r) ∧ Aside0 (kq ≤ k3) ∧ Aside0 (Below w.heap.size w w'))
                  case atStart => exact ⟨(a2.extract (t249 : Int).toNat a2.size), (0), zz0, zz0, H', ⟨Nat.le_refl _⟩, ⟨zz2⟩⟩
                  case round =>
                   clear H'
                   try clear c12b0
                   try clear c13b0
                   try clear c13b1
                   try clear c14b0
                   try clear c14b1
                   obtain ⟨x10_4, x11_4, rfl, rfl, HA, HK4, HB⟩ := hrel
                   cases gk with
                   | zero => exact absurd HA.out (by simp [gantletref14_Can.l2])
                   | succ k4 =>
                     have H := HA.out
                     clear HA
                     simp only [gantletref14_Can.l2] at H
                     by_cases c15 : x11_4 < x8_1
                     ·
                      rw [if_pos c15] at H
                      have c15b0 := decide_eq_true c15
                      clear c15
                      obtain ⟨y250, hy250⟩ : ∃ y_ : List Int, y_ = (([(wrap64 (128 + (wrap64 (63 * x9_3)))) % 256] : List Int)) := ⟨_, rfl⟩
                      replace H : (if x10_4.size + (strOfNums y250).size ≤ 9223372036854775807 then (gantletref14_Can.l2 k4 a1 a2 t249 x8_1 x9_3 (x10_4 ++ (strOfNums y250)) (wrap64 (x11_4 + 1))) else (none)) = some r := by first | (rw [hy250]; with_reducible exact H) | (have H2_ := (Option.bind_some _ _).symm.trans H; rw [hy250]; with_reducible exact H2_) | (have H2_ := (Option.bind_some _ _).symm.trans H; with_reducible exact H2_) | with_reducible exact H | (rw [hy250]; exact H) | exact H
                      have Ny250 := Aside0.mk hy250
                      clear hy250
                      by_cases c16 : x10_4.size + (strOfNums y250).size ≤ 9223372036854775807
                      ·
                       rw [if_pos c16] at H
                       have c16b0 := eq_true c16
                       have c16b1 := decide_eq_true c16
                       try have c16b2 : (9223372036854775807 < x10_4.size + (strOfNums y250).size) = False := eq_false (Nat.not_lt.2 c16)
                       have H' := Aside0.mk H
                       clear H
                       go_wp2_with (first | ((with_reducible refine gate_dst (N := 56) rfl ?_); (try (refine gate_guard (by rfl) ?_; dsimp only)); refine Kd.R_lit (Kd.int .u8) _ 5 ?hg (N := 56) ?hd (xs := ([(wrap64 (128 + (wrap64 (63 * x9_3)))) % 256] : List Int)) (inner := [.int .u8 ((wrap64 (128 + (wrap64 (63 * x9_3)))) % 256)]) (ok := fun _ => True) (okp := fun _ => True) ?hr ?hp (fun _ hk => hk) trivial (Below.refl _ _) (Nat.le_refl _) zz29 ?_; (case hd => rfl); (case hg => rfl); (case hr => first | (go_simp; done) | (go_simp; rfl)); (case hp => exact (Reps.one (show Kd.M (Kd.int .u8) _ _ _ ((wrap64 (128 + (wrap64 (63 * x9_3)))) % 256) [.int .u8 ((wrap64 (128 + (wrap64 (63 * x9_3)))) % 256)] from rfl) (Reps.none _ _))); intro v251 w17 ho18 hb hg_ hnew_; clear hg_ hnew_; (first | rw [← Ny250.out] at ho18 | (simp only [Int.reduceToNat] at ho18; rw [← Ny250.out] at ho18)); have n0_ := Aside0.mk (Kd.R_lower ho18 (below_size zz2)); have n1_ := Aside0.mk (below_step zz2 hb); clear HB; have HO252 := n0_; have HB := n1_; clear n0_ n1_; clear hb ho18; have hcv19 := own_string (P := Try.prog) Try.underlying52 Try.underlying5 Try.underlying9 (Kd.own_of_R HO252.out)))
                       go_roundg k4
                       case measure => have := HK1.out; have := HJ8.out; have := HK3.out; have := HK4.out; omega
                       case rel => exact ⟨(x10_4 ++ (strOfNums y250)), (wrap64 (x11_4 + 1)), zz0, zz0, H', ⟨by have := HK1.out; have := HJ8.out; have := HK3.out; have := HK4.out; omega⟩, ⟨zz2⟩⟩
                      ·
                       rw [if_neg c16] at H
                       exact absurd H zz29
                     ·
                      rw [if_neg c15] at H
                      have c15b0 := decide_eq_false c15
                      clear c15
                      replace H := Option.bind_eq_some_iff.mp H
                      obtain ⟨t253, A200, H⟩ := H
                      replace H : (if t253 = (x10_4.size : Int) then (some true) else (gantletref14_Can.l1 k4 a1 a2 t249 x8_1 (wrap64 (x9_3 + 1)))) = some r := H
                      have A20 := Aside0.mk A200
                      clear A200
                      by_cases c21 : t253 = (x10_4.size : Int)
                      ·
                       rw [if_pos c21] at H
                       have c21b0 := beq_iff_eq.mpr c21
                       have c21b1 := bne_eq_false_iff_eq.mpr c21
                       clear c21
                       obtain rfl := Option.some.inj H
                       go_wp2_with (first | ((with_reducible refine gate_callee (f := 66) rfl ?_); refine goesL_ (some 60) rfl rfl Try.func66 zz8 rfl #[.string x10_4, .int .i64 0] rfl zz5 ?_; (with_reducible refine (gantletref14_char.calls k4 x10_4 0 t253 _ A20.out).mono ?_); rintro e w' ⟨rfl, ⟨nd, rfl⟩⟩; refine ⟨_, rfl, ?_⟩))
                       go_ret
                       exact ⟨zz6, zz2⟩
                      ·
                       rw [if_neg c21] at H
                       have c21b0 := beq_eq_false_iff_ne.mpr c21
                       have c21b1 := bne_iff_ne.mpr c21
                       have H' := Aside0.mk H
                       clear H
                       go_wp2_with (first | ((with_reducible refine gate_callee (f := 66) rfl ?_); refine goesL_ (some 60) rfl rfl Try.func66 zz8 rfl #[.string x10_4, .int .i64 0] rfl zz5 ?_; (with_reducible refine (gantletref14_char.calls k4 x10_4 0 t253 _ A20.out).mono ?_); rintro e w' ⟨rfl, ⟨nd, rfl⟩⟩; refine ⟨_, rfl, ?_⟩))
                       go_roundg k4
                       case measure => have := HK1.out; have := HJ8.out; have := HK3.out; have := HK4.out; omega
                       case rel => exact ⟨(wrap64 (x9_3 + 1)), zz0, H', ⟨by have := HK1.out; have := HJ8.out; have := HK3.out; have := HK4.out; omega⟩, ⟨zz2⟩⟩
                 ·
                  rw [if_neg c14] at H
                  exact absurd H zz29
                ·
                 rw [if_neg c13] at H
                 exact absurd H zz29
               ·
                rw [if_neg c12] at H
                have c12b0 := decide_eq_false c12
                clear c12
                have H' := Aside0.mk H
                clear H
                go_wp2
                go_roundg k3
                case measure => have := HK1.out; have := HJ8.out; have := HK3.out; omega
                case rel => exact ⟨(wrap64 (x8_1 + 1)), zz0, H', ⟨by have := HK1.out; have := HJ8.out; have := HK3.out; omega⟩, ⟨zz2⟩⟩
           ·
            replace c11 := Bool.eq_false_iff.mpr c11
            subst c11
            rw [if_neg (show ¬ (false = true) by decide)] at H
            obtain rfl := Option.some.inj H
            go_wp2
            go_ret
            exact ⟨zz6, zz2⟩
  ·
   rw [if_neg c5] at H
   have c5b0 := beq_eq_false_iff_ne.mpr c5
   have c5b1 := bne_iff_ne.mpr c5
   replace H := Option.bind_eq_some_iff.mp H
   obtain ⟨t248, A220, H⟩ := H
   replace H : (some t248) = some r := H
   have A22 := Aside0.mk A220
   clear A220
   obtain rfl := Option.some.inj H
   go_enter Try.func44, Try.ntmps44
   go_wp2_with (first | ((with_reducible refine gate_callee (f := 64) rfl ?_); refine goesL_ (some 18) rfl rfl Try.func64 zz8 rfl #[.int .i64 a0, .string a2] rfl zz5 ?_; (with_reducible refine (gantletref14_Check.calls k a0 a2 t248 _ A22.out).mono ?_); rintro e w' ⟨rfl, ⟨nd, rfl⟩⟩; refine ⟨_, rfl, ?_⟩))
   go_ret
   exact ⟨zz6, zz2⟩
end Go.Proofs.Ytpfconocipmcjaa.PC
namespace Go.Proofs.Ytpfconocipmcjaa.PC
open RowKit YtpfconocipmcjaaW.PrintWords YtpfconocipmcjaaW.PrintLast YtpfconocipmcjaaW.PrintMore
attribute [local go_sem] max2_int min2_int max_two min_two max_three min_three max_four min_four
set_option linter.unusedVariables false
set_option linter.unusedSimpArgs false
def gantletref14_Wrong.l0 : Nat → Int → Int → ByteArray → Int → Option (Int)
 | 0, _, _, _, _ => none
 | k + 1, x0, x1, x2, x7 => if x7 ≤ (x2.size : Int) then (if 0 ≤ x7 then ((gantletref14_Can.f k x0 x1 (x2.extract 0 (x7 : Int).toNat)).bind fun t254 => (if t254 = true then (gantletref14_Wrong.l0 k x0 x1 x2 (wrap64 (x7 + 1))) else (some x7))) else (none)) else (some (-1))
def gantletref14_Wrong.f (k : Nat) (a0 : Int) (a1 : Int) (a2 : ByteArray) : Option (Int) := gantletref14_Wrong.l0 k a0 a1 a2 0
set_option maxHeartbeats 8000000 in
set_option maxRecDepth 100000 in
theorem gantletref14_Wrong.calls (k : Nat) (a0 : Int) (a1 : Int) (a2 : ByteArray) (r : Int) (w : World) (h : gantletref14_Wrong.f k a0 a1 a2 = some r) :
 Calls Try.prog 33 #[.int .i64 a0, .int .i64 a1, .string a2] w fun e w' => e = .returned (.int .i64 r) ∧ Below w.heap.size w w' := by
 have HB := Aside0.mk (Below.refl w.heap.size w)
 have H : (gantletref14_Wrong.l0 k a0 a1 a2 0) = some r := h
 clear h
 have H' := Aside0.mk H
 clear H
 go_enter Try.func33, Try.ntmps33
 go_wp2
 go_loopg [7] k (fun kq v7 w' => ∃ (x7_1 : Int), v7 = .int .i64 x7_1 ∧ Aside0 (gantletref14_Wrong.l0 kq a0 a1 a2 x7_1 = some r) ∧ Aside0 (kq ≤ k) ∧ Aside0 (Below w.heap.size w w'))
 case atStart => exact ⟨(0), zz0, H', ⟨Nat.le_refl _⟩, ⟨zz2⟩⟩
 case round =>
  clear H'
  obtain ⟨x7_1, rfl, HA, HK1, HB⟩ := hrel
  cases gk with
  | zero => exact absurd HA.out (by simp [gantletref14_Wrong.l0])
  | succ k1 =>
    have H := HA.out
    clear HA
    simp only [gantletref14_Wrong.l0] at H
    by_cases c4 : x7_1 ≤ (a2.size : Int)
    ·
     rw [if_pos c4] at H
     have c4b0 := decide_eq_true c4
     clear c4
     by_cases c5 : 0 ≤ x7_1
     ·
      rw [if_pos c5] at H
      have c5b0 := eq_true c5
      have c5b1 := decide_eq_true c5
      clear c5
      have c6b0 := eq_true (of_decide_eq_true zz4 : x7_1 ≤ (a2.size : Int))
      replace H := Option.bind_eq_some_iff.mp H
      obtain ⟨t254, A70, H⟩ := H
      replace H : (if t254 = true then (gantletref14_Wrong.l0 k1 a0 a1 a2 (wrap64 (x7_1 + 1))) else (some x7_1)) = some r := H
      have A7 := Aside0.mk A70
      clear A70
      by_cases c8 : t254 = true
      ·
       subst c8
       rw [if_pos rfl] at H
       have H' := Aside0.mk H
       clear H
       go_wp2_with (first | ((with_reducible refine gate_callee (f := 44) rfl ?_); refine goesL_ (some 19) rfl rfl Try.func44 zz8 rfl #[.int .i64 a0, .int .i64 a1, .string (a2.extract 0 (x7_1 : Int).toNat)] rfl zz5 ?_; (with_reducible refine (gantletref14_Can.calls k1 a0 a1 (a2.extract 0 (x7_1 : Int).toNat) true _ A7.out).mono ?_); rintro e w9 ⟨rfl, hb⟩; refine ⟨_, rfl, ?_⟩; have n0_ := Aside0.mk (below_step zz2 hb); clear HB; have HB := n0_; clear n0_; (try clear hb); (try clear hb2); (try clear hk); (try clear hi)))
       go_roundg k1
       case measure => have := HK1.out; omega
       case rel => exact ⟨(wrap64 (x7_1 + 1)), zz0, H', ⟨zz59⟩, ⟨zz2⟩⟩
      ·
       replace c8 := Bool.eq_false_iff.mpr c8
       subst c8
       rw [if_neg (show ¬ (false = true) by decide)] at H
       obtain rfl := Option.some.inj H
       go_wp2_with (first | ((with_reducible refine gate_callee (f := 44) rfl ?_); refine goesL_ (some 19) rfl rfl Try.func44 zz8 rfl #[.int .i64 a0, .int .i64 a1, .string (a2.extract 0 (x7_1 : Int).toNat)] rfl zz5 ?_; (with_reducible refine (gantletref14_Can.calls k1 a0 a1 (a2.extract 0 (x7_1 : Int).toNat) false _ A7.out).mono ?_); rintro e w10 ⟨rfl, hb⟩; refine ⟨_, rfl, ?_⟩; have n0_ := Aside0.mk (below_step zz2 hb); clear HB; have HB := n0_; clear n0_; (try clear hb); (try clear hb2); (try clear hk); (try clear hi)))
       go_ret
       exact ⟨zz6, zz2⟩
     ·
      rw [if_neg c5] at H
      exact absurd H zz29
    ·
     rw [if_neg c4] at H
     have c4b0 := decide_eq_false c4
     clear c4
     obtain rfl := Option.some.inj H
     go_wp2
     go_ret
     exact ⟨zz6, zz2⟩
end Go.Proofs.Ytpfconocipmcjaa.PC
