-- Written by a program of this session (print2, a turned print): not PRINTED BY print.sh
import Derived.Test.YtjookjdpfbflkaaPAx0
import Derived.Test.YtjookjdpfbflkaaPAx3
namespace Go.Proofs.Ytjookjdpfbflkaa.PA
open Go.RowKit Go.Proofs.YtjookjdpfbflkaaW.PrintWords Go.Proofs.YtjookjdpfbflkaaW.PrintLast Go.Proofs.YtjookjdpfbflkaaW.PrintMore
attribute [local go_sem] max2_int min2_int max_two min_two max_three min_three max_four min_four   -- for this text's walks alone
set_option linter.unusedVariables false
set_option linter.unusedSimpArgs false

/-! ### gantletref14_Utf8: function 17 -/
def gantletref14_Utf8.l0 : Nat → ByteArray → Int → Option (Bool)
  | 0, _, _ => none
  | k + 1, x0, x3 => if x3 < (x0.size : Int) then ((gantletref14_char.f k x0 x3).bind fun t170 => (if t170 = 0 then (some false) else (gantletref14_Utf8.l0 k x0 (wrap64 (x3 + t170))))) else (some true)
def gantletref14_Utf8.f (k : Nat) (a0 : ByteArray) : Option (Bool) := gantletref14_Utf8.l0 k a0 0
theorem gantletref14_Utf8.mono_l : ∀ k, (∀ y0 y1, LeO (gantletref14_Utf8.l0 k y0 y1) (gantletref14_Utf8.l0 (k + 1) y0 y1))
  | 0 => fun _ _ r h => by simp [gantletref14_Utf8.l0] at h
  | k + 1 => by
    have ih0 := gantletref14_Utf8.mono_l k
    · intro y0 y1
      unfold gantletref14_Utf8.l0
      repeat' first
      | (with_reducible exact ih0 _ _)
      | (with_reducible exact gantletref14_char.mono _ _ _)
      | (with_reducible exact LeO.refl _)
      | (with_reducible exact LeO.none _)
      | (with_reducible refine LeO.ite ?_ ?_)
      | (with_reducible refine LeO.bind ?_ (fun _ => ?_))
      | exact ih0 _ _
      | exact gantletref14_char.mono _ _ _
      | exact LeO.none _
      | refine LeO.ite ?_ ?_
      | refine LeO.bind ?_ (fun _ => ?_)
theorem gantletref14_Utf8.mono : ∀ a0 k, LeO (gantletref14_Utf8.f k a0) (gantletref14_Utf8.f (k + 1) a0) := by
  intro a0 k
  have ih0 := gantletref14_Utf8.mono_l k
  unfold gantletref14_Utf8.f
  repeat' first
      | (with_reducible exact ih0 _ _)
      | (with_reducible exact gantletref14_char.mono _ _ _)
      | (with_reducible exact LeO.refl _)
      | (with_reducible exact LeO.none _)
      | (with_reducible refine LeO.ite ?_ ?_)
      | (with_reducible refine LeO.bind ?_ (fun _ => ?_))
      | exact ih0 _ _
      | exact gantletref14_char.mono _ _ _
      | exact LeO.none _
      | refine LeO.ite ?_ ?_
      | refine LeO.bind ?_ (fun _ => ?_)
set_option maxHeartbeats 8000000 in
set_option maxRecDepth 100000 in
theorem gantletref14_Utf8.calls (k : Nat) (a0 : ByteArray) (r : Bool) (w : World) (h : gantletref14_Utf8.f k a0 = some r) :
    Calls Try.prog 17 #[.string a0] w fun e w' => e = .returned (.bool r) ∧ Drawn0 w w' := by
  have H : (gantletref14_Utf8.l0 k a0 0) = some r := h
  clear h
  have H' := Aside0.mk H
  clear H
  go_enter Try.func17, Try.ntmps17
  go_wp2
  go_loopg [3] k (fun kq v3 w' => ∃ (x3_1 : Int), v3 = .int .i64 x3_1 ∧ Aside0 (gantletref14_Utf8.l0 kq a0 x3_1 = some r) ∧ Aside0 (kq ≤ k) ∧ Drawn0 w w')
  case atStart => exact ⟨(0), (by first | rfl | (simp; done) | (simp [*]; done)), H', ⟨Nat.le_refl _⟩, by repeat (first | exact Drawn0.refl _ | apply Drawn0.step)⟩
  case round =>
    clear H'
    try clear c1
    obtain ⟨x3_1, rfl, HA, HK1, ⟨m1, rfl⟩⟩ := hrel
    cases gk with
    | zero => exact absurd HA.out (by simp [gantletref14_Utf8.l0])
    | succ k1 =>
      have H := HA.out
      clear HA
      simp only [gantletref14_Utf8.l0] at H
      by_cases c2 : x3_1 < (a0.size : Int)
      · rw [if_pos c2] at H
        have c2b0 : decide (x3_1 < (a0.size : Int)) = true := decide_eq_true c2
        clear c2
        replace H := Option.bind_eq_some_iff.mp H
        obtain ⟨t170, A30, H⟩ := H
        replace H : (if t170 = 0 then (some false) else (gantletref14_Utf8.l0 k1 a0 (wrap64 (x3_1 + t170)))) = some r := H
        have A3 := Aside0.mk A30
        clear A30
        by_cases c4 : t170 = 0
        · rw [if_pos c4] at H
          have c4b0 : (t170 == 0) = true := beq_iff_eq.mpr c4
          have c4b1 : (t170 != 0) = false := bne_eq_false_iff_eq.mpr c4
          clear c4
          obtain rfl := Option.some.inj H
          go_wp2_with (first | ((with_reducible refine gate_callee (f := 20) rfl ?_); refine goesL_ (some 11) rfl rfl Try.func20 (by kernel_rfl) rfl #[.string a0, .int .i64 x3_1] rfl (by (try simp only [List.map_toArray, List.map_cons, List.map_nil]); first | done | rfl | (simp only [List.length_drop, List.length_take]; rfl)) ?_; (with_reducible refine (gantletref14_char.calls k1 a0 x3_1 t170 _ A3.out).mono ?_); rintro e w' ⟨rfl, ⟨nd, rfl⟩⟩; refine ⟨_, rfl, ?_⟩))
          go_ret
          exact ⟨by first | rfl | (simp; done) | (simp [*]; done), by repeat (first | exact Drawn0.refl _ | apply Drawn0.step)⟩
        · rw [if_neg c4] at H
          have c4b0 : (t170 == 0) = false := beq_eq_false_iff_ne.mpr c4
          have c4b1 : (t170 != 0) = true := bne_iff_ne.mpr c4
          have H' := Aside0.mk H
          clear H
          go_wp2_with (first | ((with_reducible refine gate_callee (f := 20) rfl ?_); refine goesL_ (some 11) rfl rfl Try.func20 (by kernel_rfl) rfl #[.string a0, .int .i64 x3_1] rfl (by (try simp only [List.map_toArray, List.map_cons, List.map_nil]); first | done | rfl | (simp only [List.length_drop, List.length_take]; rfl)) ?_; (with_reducible refine (gantletref14_char.calls k1 a0 x3_1 t170 _ A3.out).mono ?_); rintro e w' ⟨rfl, ⟨nd, rfl⟩⟩; refine ⟨_, rfl, ?_⟩))
          go_roundg k1
          case measure => have := HK1.out; omega
          case rel => exact ⟨(wrap64 (x3_1 + t170)), (by first | rfl | (simp; done) | (simp [*]; done)), H', ⟨by have := HK1.out; omega⟩, by repeat (first | exact Drawn0.refl _ | apply Drawn0.step)⟩
      · rw [if_neg c2] at H
        have c2b0 : decide (x3_1 < (a0.size : Int)) = false := decide_eq_false c2
        clear c2
        obtain rfl := Option.some.inj H
        go_wp2
        go_ret
        exact ⟨by first | rfl | (simp; done) | (simp [*]; done), by repeat (first | exact Drawn0.refl _ | apply Drawn0.step)⟩

/-! ### gantletref14_plain: function 18 -/
mutual
def gantletref14_plain.j0 : Nat → Int → Bool → Option (Bool)
  | 0, _, _ => none
  | k + 1, x1, x34 => if x34 = true then (some true) else (gantletref14_plain.l0 k x1 (⟨#[32, 39, 40, 41, 43, 44, 45, 46, 47, 58, 61, 63]⟩ : ByteArray) 0)
def gantletref14_plain.l0 : Nat → Int → ByteArray → Int → Option (Bool)
  | 0, _, _, _ => none
  | k + 1, x1, x5, x6 => if x6 < (x5.size : Int) then (if 0 ≤ x6 then (if (bt x5 x6) = x1 then (some true) else (gantletref14_plain.l0 k x1 x5 (wrap64 (x6 + 1)))) else (none)) else (some false)
end
def gantletref14_plain.f (k : Nat) (a0 : Int) (a1 : Int) : Option (Bool) := if a0 = 22 then (some (decide (a1 < 128))) else (if a0 = 19 then (if a1 ≥ 65 then (if a1 ≤ 90 then (gantletref14_plain.j0 k a1 true) else (if a1 ≥ 97 then (if a1 ≤ 122 then (gantletref14_plain.j0 k a1 true) else (if a1 ≥ 48 then (gantletref14_plain.j0 k a1 (decide (a1 ≤ 57))) else (gantletref14_plain.j0 k a1 false))) else (if a1 ≥ 48 then (gantletref14_plain.j0 k a1 (decide (a1 ≤ 57))) else (gantletref14_plain.j0 k a1 false)))) else (if a1 ≥ 97 then (if a1 ≤ 122 then (gantletref14_plain.j0 k a1 true) else (if a1 ≥ 48 then (gantletref14_plain.j0 k a1 (decide (a1 ≤ 57))) else (gantletref14_plain.j0 k a1 false))) else (if a1 ≥ 48 then (gantletref14_plain.j0 k a1 (decide (a1 ≤ 57))) else (gantletref14_plain.j0 k a1 false)))) else (some true))
theorem gantletref14_plain.mono_l : ∀ k, (∀ y0 y1, LeO (gantletref14_plain.j0 k y0 y1) (gantletref14_plain.j0 (k + 1) y0 y1)) ∧ (∀ y0 y1 y2, LeO (gantletref14_plain.l0 k y0 y1 y2) (gantletref14_plain.l0 (k + 1) y0 y1 y2))
  | 0 => ⟨fun _ _ r h => by simp [gantletref14_plain.j0] at h, fun _ _ _ r h => by simp [gantletref14_plain.l0] at h⟩
  | k + 1 => by
    obtain ⟨ih0, ih1⟩ := gantletref14_plain.mono_l k
    refine ⟨?_, ?_⟩
    · intro y0 y1
      unfold gantletref14_plain.j0
      repeat' first
      | (with_reducible exact ih0 _ _)
      | (with_reducible exact ih1 _ _ _)
      | (with_reducible exact LeO.refl _)
      | (with_reducible exact LeO.none _)
      | (with_reducible refine LeO.ite ?_ ?_)
      | (with_reducible refine LeO.bind ?_ (fun _ => ?_))
      | exact ih0 _ _
      | exact ih1 _ _ _
      | exact LeO.none _
      | refine LeO.ite ?_ ?_
      | refine LeO.bind ?_ (fun _ => ?_)
    · intro y0 y1 y2
      unfold gantletref14_plain.l0
      repeat' first
      | (with_reducible exact ih0 _ _)
      | (with_reducible exact ih1 _ _ _)
      | (with_reducible exact LeO.refl _)
      | (with_reducible exact LeO.none _)
      | (with_reducible refine LeO.ite ?_ ?_)
      | (with_reducible refine LeO.bind ?_ (fun _ => ?_))
      | exact ih0 _ _
      | exact ih1 _ _ _
      | exact LeO.none _
      | refine LeO.ite ?_ ?_
      | refine LeO.bind ?_ (fun _ => ?_)
theorem gantletref14_plain.mono : ∀ a0 a1 k, LeO (gantletref14_plain.f k a0 a1) (gantletref14_plain.f (k + 1) a0 a1) := by
  intro a0 a1 k
  obtain ⟨ih0, ih1⟩ := gantletref14_plain.mono_l k
  unfold gantletref14_plain.f
  repeat' first
      | (with_reducible exact ih0 _ _)
      | (with_reducible exact ih1 _ _ _)
      | (with_reducible exact LeO.refl _)
      | (with_reducible exact LeO.none _)
      | (with_reducible refine LeO.ite ?_ ?_)
      | (with_reducible refine LeO.bind ?_ (fun _ => ?_))
      | exact ih0 _ _
      | exact ih1 _ _ _
      | exact LeO.none _
      | refine LeO.ite ?_ ?_
      | refine LeO.bind ?_ (fun _ => ?_)
set_option maxHeartbeats 8000000 in
set_option maxRecDepth 100000 in
theorem gantletref14_plain.calls (k : Nat) (a0 : Int) (a1 : Int) (r : Bool) (w : World) (h : gantletref14_plain.f k a0 a1 = some r) :
    Calls Try.prog 18 #[.int .i64 a0, .int .u8 a1] w fun e w' => e = .returned (.bool r) ∧ Drawn0 w w' := by
  have H : (if a0 = 22 then (some (decide (a1 < 128))) else (if a0 = 19 then (if a1 ≥ 65 then (if a1 ≤ 90 then (gantletref14_plain.j0 k a1 true) else (if a1 ≥ 97 then (if a1 ≤ 122 then (gantletref14_plain.j0 k a1 true) else (if a1 ≥ 48 then (gantletref14_plain.j0 k a1 (decide (a1 ≤ 57))) else (gantletref14_plain.j0 k a1 false))) else (if a1 ≥ 48 then (gantletref14_plain.j0 k a1 (decide (a1 ≤ 57))) else (gantletref14_plain.j0 k a1 false)))) else (if a1 ≥ 97 then (if a1 ≤ 122 then (gantletref14_plain.j0 k a1 true) else (if a1 ≥ 48 then (gantletref14_plain.j0 k a1 (decide (a1 ≤ 57))) else (gantletref14_plain.j0 k a1 false))) else (if a1 ≥ 48 then (gantletref14_plain.j0 k a1 (decide (a1 ≤ 57))) else (gantletref14_plain.j0 k a1 false)))) else (some true))) = some r := h
  clear h
  by_cases c3 : a0 = 22
  · rw [if_pos c3] at H
    have c3b0 : (a0 == 22) = true := beq_iff_eq.mpr c3
    have c3b1 : (a0 != 22) = false := bne_eq_false_iff_eq.mpr c3
    clear c3
    obtain rfl := Option.some.inj H
    go_enter Try.func18, Try.ntmps18
    go_wp2
    go_ret
    exact ⟨by first | rfl | (simp; done) | (simp [*]; done), by repeat (first | exact Drawn0.refl _ | apply Drawn0.step)⟩
  · rw [if_neg c3] at H
    have c3b0 : (a0 == 22) = false := beq_eq_false_iff_ne.mpr c3
    have c3b1 : (a0 != 22) = true := bne_iff_ne.mpr c3
    by_cases c4 : a0 = 19
    · rw [if_pos c4] at H
      have c4b0 : (a0 == 19) = true := beq_iff_eq.mpr c4
      have c4b1 : (a0 != 19) = false := bne_eq_false_iff_eq.mpr c4
      clear c4
      have HC5 := Aside0.mk H
      clear H
      go_enter Try.func18, Try.ntmps18
      go_upto_region 5 with (fail)
      go_cut [34] (fun v34 wc => ∃ (kq : Nat) (x34_4 : Bool), v34 = .bool x34_4 ∧ Aside0 (gantletref14_plain.j0 kq a1 x34_4 = some r) ∧ Aside0 (kq ≤ k) ∧ Drawn0 w wc)
      case first =>
        have H := HC5.out
        clear HC5
        by_cases c6 : a1 ≥ 65
        · rw [if_pos c6] at H
          have c6b0 : decide (65 ≤ a1) = true := decide_eq_true c6
          clear c6
          (first | rw [c6b0] | (simp only [i64_w, i32_w]; rw [c6b0]) | skip)
          by_cases c7 : a1 ≤ 90
          · rw [if_pos c7] at H
            have c7b0 : decide (a1 ≤ 90) = true := decide_eq_true c7
            clear c7
            have H' := Aside0.mk H
            clear H
            go_wp2
            go_meet
            case rel => exact ⟨_, (true), (by first | rfl | (simp; done) | (simp [*]; done)), H', ⟨by first | omega | exact Nat.le_refl _⟩, by repeat (first | exact Drawn0.refl _ | apply Drawn0.step)⟩
          · rw [if_neg c7] at H
            have c7b0 : decide (a1 ≤ 90) = false := decide_eq_false c7
            clear c7
            by_cases c8 : a1 ≥ 97
            · rw [if_pos c8] at H
              have c8b0 : decide (97 ≤ a1) = true := decide_eq_true c8
              clear c8
              by_cases c9 : a1 ≤ 122
              · rw [if_pos c9] at H
                have c9b0 : decide (a1 ≤ 122) = true := decide_eq_true c9
                clear c9
                have H' := Aside0.mk H
                clear H
                go_wp2
                go_meet
                case rel => exact ⟨_, (true), (by first | rfl | (simp; done) | (simp [*]; done)), H', ⟨by first | omega | exact Nat.le_refl _⟩, by repeat (first | exact Drawn0.refl _ | apply Drawn0.step)⟩
              · rw [if_neg c9] at H
                have c9b0 : decide (a1 ≤ 122) = false := decide_eq_false c9
                clear c9
                by_cases c10 : a1 ≥ 48
                · rw [if_pos c10] at H
                  have c10b0 : decide (48 ≤ a1) = true := decide_eq_true c10
                  clear c10
                  have H' := Aside0.mk H
                  clear H
                  go_wp2
                  go_meet
                  case rel => exact ⟨_, (decide (a1 ≤ 57)), (by first | rfl | (simp; done) | (simp [*]; done)), H', ⟨by first | omega | exact Nat.le_refl _⟩, by repeat (first | exact Drawn0.refl _ | apply Drawn0.step)⟩
                · rw [if_neg c10] at H
                  have c10b0 : decide (48 ≤ a1) = false := decide_eq_false c10
                  clear c10
                  have H' := Aside0.mk H
                  clear H
                  go_wp2
                  go_meet
                  case rel => exact ⟨_, (false), (by first | rfl | (simp; done) | (simp [*]; done)), H', ⟨by first | omega | exact Nat.le_refl _⟩, by repeat (first | exact Drawn0.refl _ | apply Drawn0.step)⟩
            · rw [if_neg c8] at H
              have c8b0 : decide (97 ≤ a1) = false := decide_eq_false c8
              clear c8
              by_cases c11 : a1 ≥ 48
              · rw [if_pos c11] at H
                have c11b0 : decide (48 ≤ a1) = true := decide_eq_true c11
                clear c11
                have H' := Aside0.mk H
                clear H
                go_wp2
                go_meet
                case rel => exact ⟨_, (decide (a1 ≤ 57)), (by first | rfl | (simp; done) | (simp [*]; done)), H', ⟨by first | omega | exact Nat.le_refl _⟩, by repeat (first | exact Drawn0.refl _ | apply Drawn0.step)⟩
              · rw [if_neg c11] at H
                have c11b0 : decide (48 ≤ a1) = false := decide_eq_false c11
                clear c11
                have H' := Aside0.mk H
                clear H
                go_wp2
                go_meet
                case rel => exact ⟨_, (false), (by first | rfl | (simp; done) | (simp [*]; done)), H', ⟨by first | omega | exact Nat.le_refl _⟩, by repeat (first | exact Drawn0.refl _ | apply Drawn0.step)⟩
        · rw [if_neg c6] at H
          have c6b0 : decide (65 ≤ a1) = false := decide_eq_false c6
          clear c6
          (first | rw [c6b0] | (simp only [i64_w, i32_w]; rw [c6b0]) | skip)
          by_cases c12 : a1 ≥ 97
          · rw [if_pos c12] at H
            have c12b0 : decide (97 ≤ a1) = true := decide_eq_true c12
            clear c12
            by_cases c13 : a1 ≤ 122
            · rw [if_pos c13] at H
              have c13b0 : decide (a1 ≤ 122) = true := decide_eq_true c13
              clear c13
              have H' := Aside0.mk H
              clear H
              go_wp2
              go_meet
              case rel => exact ⟨_, (true), (by first | rfl | (simp; done) | (simp [*]; done)), H', ⟨by first | omega | exact Nat.le_refl _⟩, by repeat (first | exact Drawn0.refl _ | apply Drawn0.step)⟩
            · rw [if_neg c13] at H
              have c13b0 : decide (a1 ≤ 122) = false := decide_eq_false c13
              clear c13
              by_cases c14 : a1 ≥ 48
              · rw [if_pos c14] at H
                have c14b0 : decide (48 ≤ a1) = true := decide_eq_true c14
                clear c14
                have H' := Aside0.mk H
                clear H
                go_wp2
                go_meet
                case rel => exact ⟨_, (decide (a1 ≤ 57)), (by first | rfl | (simp; done) | (simp [*]; done)), H', ⟨by first | omega | exact Nat.le_refl _⟩, by repeat (first | exact Drawn0.refl _ | apply Drawn0.step)⟩
              · rw [if_neg c14] at H
                have c14b0 : decide (48 ≤ a1) = false := decide_eq_false c14
                clear c14
                have H' := Aside0.mk H
                clear H
                go_wp2
                go_meet
                case rel => exact ⟨_, (false), (by first | rfl | (simp; done) | (simp [*]; done)), H', ⟨by first | omega | exact Nat.le_refl _⟩, by repeat (first | exact Drawn0.refl _ | apply Drawn0.step)⟩
          · rw [if_neg c12] at H
            have c12b0 : decide (97 ≤ a1) = false := decide_eq_false c12
            clear c12
            by_cases c15 : a1 ≥ 48
            · rw [if_pos c15] at H
              have c15b0 : decide (48 ≤ a1) = true := decide_eq_true c15
              clear c15
              have H' := Aside0.mk H
              clear H
              go_wp2
              go_meet
              case rel => exact ⟨_, (decide (a1 ≤ 57)), (by first | rfl | (simp; done) | (simp [*]; done)), H', ⟨by first | omega | exact Nat.le_refl _⟩, by repeat (first | exact Drawn0.refl _ | apply Drawn0.step)⟩
            · rw [if_neg c15] at H
              have c15b0 : decide (48 ≤ a1) = false := decide_eq_false c15
              clear c15
              have H' := Aside0.mk H
              clear H
              go_wp2
              go_meet
              case rel => exact ⟨_, (false), (by first | rfl | (simp; done) | (simp [*]; done)), H', ⟨by first | omega | exact Nat.le_refl _⟩, by repeat (first | exact Drawn0.refl _ | apply Drawn0.step)⟩
      case rest =>
        clear HC5
        try clear c1
        try clear p2
        try clear c3
        try clear c3b0
        try clear c3b1
        try clear c4
        try clear c4b0
        try clear c4b1
        try clear c6
        try clear c6b0
        try clear c7
        try clear c7b0
        try clear c8
        try clear c8b0
        try clear c9
        try clear c9b0
        try clear c10
        try clear c10b0
        try clear c11
        try clear c11b0
        try clear c12
        try clear c12b0
        try clear c13
        try clear c13b0
        try clear c14
        try clear c14b0
        try clear c15
        try clear c15b0
        obtain ⟨kq, x34_4, rfl, HA, HJ4, ⟨mc4, rfl⟩⟩ := hcut
        cases kq with
        | zero => exact absurd HA.out (by simp [gantletref14_plain.j0])
        | succ kj4 =>
          have H := HA.out
          clear HA
          simp only [gantletref14_plain.j0] at H
          by_cases c16 : x34_4 = true
          · subst c16
            have H1 : (some true) = some r := by rw [if_pos rfl] at H; exact H
            clear H
            have H := H1
            clear H1
            obtain rfl := Option.some.inj H
            go_wp2
            go_ret
            exact ⟨by first | rfl | (simp; done) | (simp [*]; done), by repeat (first | exact Drawn0.refl _ | apply Drawn0.step)⟩
          · replace c16 := Bool.eq_false_iff.mpr c16
            subst c16
            have H1 : (gantletref14_plain.l0 kj4 a1 (⟨#[32, 39, 40, 41, 43, 44, 45, 46, 47, 58, 61, 63]⟩ : ByteArray) 0) = some r := by rw [if_neg (show ¬ (false = true) by decide)] at H; exact H
            clear H
            have H := H1
            clear H1
            have H' := Aside0.mk H
            clear H
            go_wp2
            go_loopg [6] kj4 (fun kq v6 w' => ∃ (x6_2 : Int), v6 = .int .i64 x6_2 ∧ Aside0 (gantletref14_plain.l0 kq a1 (⟨#[32, 39, 40, 41, 43, 44, 45, 46, 47, 58, 61, 63]⟩ : ByteArray) x6_2 = some r) ∧ Aside0 (kq ≤ kj4) ∧ Drawn0 w w')
            case atStart => exact ⟨(0), (by first | rfl | (simp; done) | (simp [*]; done)), H', ⟨Nat.le_refl _⟩, by repeat (first | exact Drawn0.refl _ | apply Drawn0.step)⟩
            case round =>
              clear H'
              try clear c1
              try clear p2
              try clear c3
              try clear c3b0
              try clear c3b1
              try clear c4
              try clear c4b0
              try clear c4b1
              try clear c6
              try clear c6b0
              try clear c7
              try clear c7b0
              try clear c8
              try clear c8b0
              try clear c9
              try clear c9b0
              try clear c10
              try clear c10b0
              try clear c11
              try clear c11b0
              try clear c12
              try clear c12b0
              try clear c13
              try clear c13b0
              try clear c14
              try clear c14b0
              try clear c15
              try clear c15b0
              try clear c16
              try clear p2
              obtain ⟨x6_2, rfl, HA, HK2, ⟨m2, rfl⟩⟩ := hrel
              cases gk with
              | zero => exact absurd HA.out (by simp [gantletref14_plain.l0])
              | succ k2 =>
                have H := HA.out
                clear HA
                simp only [gantletref14_plain.l0] at H
                by_cases c17 : x6_2 < ((⟨#[32, 39, 40, 41, 43, 44, 45, 46, 47, 58, 61, 63]⟩ : ByteArray).size : Int)
                · rw [if_pos c17] at H
                  have c17b0 : decide (x6_2 < ((⟨#[32, 39, 40, 41, 43, 44, 45, 46, 47, 58, 61, 63]⟩ : ByteArray).size : Int)) = true := decide_eq_true c17
                  (try (have c17v0 : decide (x6_2 < 12) = true := c17b0))
                  clear c17
                  by_cases c18 : 0 ≤ x6_2
                  · rw [if_pos c18] at H
                    have c18b0 : decide (0 ≤ x6_2) = true := decide_eq_true c18
                    clear c18
                    by_cases c20 : (bt (⟨#[32, 39, 40, 41, 43, 44, 45, 46, 47, 58, 61, 63]⟩ : ByteArray) x6_2) = a1
                    · rw [if_pos c20] at H
                      have c20b0 : ((bt (⟨#[32, 39, 40, 41, 43, 44, 45, 46, 47, 58, 61, 63]⟩ : ByteArray) x6_2) == a1) = true := beq_iff_eq.mpr c20
                      have c20b1 : ((bt (⟨#[32, 39, 40, 41, 43, 44, 45, 46, 47, 58, 61, 63]⟩ : ByteArray) x6_2) != a1) = false := bne_eq_false_iff_eq.mpr c20
                      clear c20
                      obtain rfl := Option.some.inj H
                      have p19 : 0 ≤ (x6_2 : Int) := of_decide_eq_true (by first | (with_reducible assumption) | assumption)
                      have q19 : x6_2 < (12 : Int) := of_decide_eq_true (by first | (with_reducible assumption) | assumption)
                      have hx19 := bt_at (⟨#[32, 39, 40, 41, 43, 44, 45, 46, 47, 58, 61, 63]⟩ : ByteArray) x6_2
                      replace p19 := eq_true p19
                      replace q19 := eq_true q19
                      go_wp2
                      go_ret
                      exact ⟨by first | rfl | (simp; done) | (simp [*]; done), by repeat (first | exact Drawn0.refl _ | apply Drawn0.step)⟩
                    · rw [if_neg c20] at H
                      have c20b0 : ((bt (⟨#[32, 39, 40, 41, 43, 44, 45, 46, 47, 58, 61, 63]⟩ : ByteArray) x6_2) == a1) = false := beq_eq_false_iff_ne.mpr c20
                      have c20b1 : ((bt (⟨#[32, 39, 40, 41, 43, 44, 45, 46, 47, 58, 61, 63]⟩ : ByteArray) x6_2) != a1) = true := bne_iff_ne.mpr c20
                      have H' := Aside0.mk H
                      clear H
                      have p19 : 0 ≤ (x6_2 : Int) := of_decide_eq_true (by first | (with_reducible assumption) | assumption)
                      have q19 : x6_2 < (12 : Int) := of_decide_eq_true (by first | (with_reducible assumption) | assumption)
                      have hx19 := bt_at (⟨#[32, 39, 40, 41, 43, 44, 45, 46, 47, 58, 61, 63]⟩ : ByteArray) x6_2
                      replace p19 := eq_true p19
                      replace q19 := eq_true q19
                      go_wp2
                      go_roundg k2
                      case measure => have := HJ4.out; have := HK2.out; omega
                      case rel => exact ⟨(wrap64 (x6_2 + 1)), (by first | rfl | (simp; done) | (simp [*]; done)), H', ⟨by have := HJ4.out; have := HK2.out; omega⟩, by repeat (first | exact Drawn0.refl _ | apply Drawn0.step)⟩
                  · rw [if_neg c18] at H
                    exact absurd H (by simp)
                · rw [if_neg c17] at H
                  have c17b0 : decide (x6_2 < ((⟨#[32, 39, 40, 41, 43, 44, 45, 46, 47, 58, 61, 63]⟩ : ByteArray).size : Int)) = false := decide_eq_false c17
                  (try (have c17v0 : decide (x6_2 < 12) = false := c17b0))
                  clear c17
                  obtain rfl := Option.some.inj H
                  go_wp2
                  go_ret
                  exact ⟨by first | rfl | (simp; done) | (simp [*]; done), by repeat (first | exact Drawn0.refl _ | apply Drawn0.step)⟩
    · rw [if_neg c4] at H
      have c4b0 : (a0 == 19) = false := beq_eq_false_iff_ne.mpr c4
      have c4b1 : (a0 != 19) = true := bne_iff_ne.mpr c4
      obtain rfl := Option.some.inj H
      go_enter Try.func18, Try.ntmps18
      go_wp2
      go_ret
      exact ⟨by first | rfl | (simp; done) | (simp [*]; done), by repeat (first | exact Drawn0.refl _ | apply Drawn0.step)⟩

/-! ### gantletref14_Check: function 13 -/
def gantletref14_Check.l0 : Nat → Int → ByteArray → Int → Option (Bool)
  | 0, _, _, _ => none
  | k + 1, x0, x1, x5 => if x5 < (x1.size : Int) then (if 0 ≤ x5 then ((gantletref14_plain.f k x0 (bt x1 x5)).bind fun t172 => (if t172 = true then (gantletref14_Check.l0 k x0 x1 (wrap64 (x5 + 1))) else (some false))) else (none)) else (some true)
def gantletref14_Check.f (k : Nat) (a0 : Int) (a1 : ByteArray) : Option (Bool) := if a0 = 12 then ((gantletref14_Utf8.f k a1).bind fun t171 => (some t171)) else (gantletref14_Check.l0 k a0 a1 0)
theorem gantletref14_Check.mono_l : ∀ k, (∀ y0 y1 y2, LeO (gantletref14_Check.l0 k y0 y1 y2) (gantletref14_Check.l0 (k + 1) y0 y1 y2))
  | 0 => fun _ _ _ r h => by simp [gantletref14_Check.l0] at h
  | k + 1 => by
    have ih0 := gantletref14_Check.mono_l k
    · intro y0 y1 y2
      unfold gantletref14_Check.l0
      repeat' first
      | (with_reducible exact ih0 _ _ _)
      | (with_reducible exact gantletref14_Utf8.mono _ _)
      | (with_reducible exact gantletref14_plain.mono _ _ _)
      | (with_reducible exact LeO.refl _)
      | (with_reducible exact LeO.none _)
      | (with_reducible refine LeO.ite ?_ ?_)
      | (with_reducible refine LeO.bind ?_ (fun _ => ?_))
      | exact ih0 _ _ _
      | exact gantletref14_Utf8.mono _ _
      | exact gantletref14_plain.mono _ _ _
      | exact LeO.none _
      | refine LeO.ite ?_ ?_
      | refine LeO.bind ?_ (fun _ => ?_)
theorem gantletref14_Check.mono : ∀ a0 a1 k, LeO (gantletref14_Check.f k a0 a1) (gantletref14_Check.f (k + 1) a0 a1) := by
  intro a0 a1 k
  have ih0 := gantletref14_Check.mono_l k
  unfold gantletref14_Check.f
  repeat' first
      | (with_reducible exact ih0 _ _ _)
      | (with_reducible exact gantletref14_Utf8.mono _ _)
      | (with_reducible exact gantletref14_plain.mono _ _ _)
      | (with_reducible exact LeO.refl _)
      | (with_reducible exact LeO.none _)
      | (with_reducible refine LeO.ite ?_ ?_)
      | (with_reducible refine LeO.bind ?_ (fun _ => ?_))
      | exact ih0 _ _ _
      | exact gantletref14_Utf8.mono _ _
      | exact gantletref14_plain.mono _ _ _
      | exact LeO.none _
      | refine LeO.ite ?_ ?_
      | refine LeO.bind ?_ (fun _ => ?_)
set_option maxHeartbeats 8000000 in
set_option maxRecDepth 100000 in
theorem gantletref14_Check.calls (k : Nat) (a0 : Int) (a1 : ByteArray) (r : Bool) (w : World) (h : gantletref14_Check.f k a0 a1 = some r) :
    Calls Try.prog 13 #[.int .i64 a0, .string a1] w fun e w' => e = .returned (.bool r) ∧ Drawn0 w w' := by
  have H : (if a0 = 12 then ((gantletref14_Utf8.f k a1).bind fun t171 => (some t171)) else (gantletref14_Check.l0 k a0 a1 0)) = some r := h
  clear h
  by_cases c3 : a0 = 12
  · rw [if_pos c3] at H
    have c3b0 : (a0 == 12) = true := beq_iff_eq.mpr c3
    have c3b1 : (a0 != 12) = false := bne_eq_false_iff_eq.mpr c3
    clear c3
    replace H := Option.bind_eq_some_iff.mp H
    obtain ⟨t171, A40, H⟩ := H
    replace H : (some t171) = some r := H
    have A4 := Aside0.mk A40
    clear A40
    obtain rfl := Option.some.inj H
    go_enter Try.func13, Try.ntmps13
    go_wp2_with (first | ((with_reducible refine gate_callee (f := 17) rfl ?_); refine goesL_ (some 9) rfl rfl Try.func17 (by kernel_rfl) rfl #[.string a1] rfl (by (try simp only [List.map_toArray, List.map_cons, List.map_nil]); first | done | rfl | (simp only [List.length_drop, List.length_take]; rfl)) ?_; (with_reducible refine (gantletref14_Utf8.calls k a1 t171 _ A4.out).mono ?_); rintro e w' ⟨rfl, ⟨nd, rfl⟩⟩; refine ⟨_, rfl, ?_⟩))
    go_ret
    exact ⟨by first | rfl | (simp; done) | (simp [*]; done), by repeat (first | exact Drawn0.refl _ | apply Drawn0.step)⟩
  · rw [if_neg c3] at H
    have c3b0 : (a0 == 12) = false := beq_eq_false_iff_ne.mpr c3
    have c3b1 : (a0 != 12) = true := bne_iff_ne.mpr c3
    have H' := Aside0.mk H
    clear H
    go_enter Try.func13, Try.ntmps13
    go_wp2
    go_loopg [5] k (fun kq v5 w' => ∃ (x5_1 : Int), v5 = .int .i64 x5_1 ∧ Aside0 (gantletref14_Check.l0 kq a0 a1 x5_1 = some r) ∧ Aside0 (kq ≤ k) ∧ Drawn0 w w')
    case atStart => exact ⟨(0), (by first | rfl | (simp; done) | (simp [*]; done)), H', ⟨Nat.le_refl _⟩, by repeat (first | exact Drawn0.refl _ | apply Drawn0.step)⟩
    case round =>
      clear H'
      try clear c1
      try clear p2
      try clear c3
      try clear c3b0
      try clear c3b1
      obtain ⟨x5_1, rfl, HA, HK1, ⟨m1, rfl⟩⟩ := hrel
      cases gk with
      | zero => exact absurd HA.out (by simp [gantletref14_Check.l0])
      | succ k1 =>
        have H := HA.out
        clear HA
        simp only [gantletref14_Check.l0] at H
        by_cases c5 : x5_1 < (a1.size : Int)
        · rw [if_pos c5] at H
          have c5b0 : decide (x5_1 < (a1.size : Int)) = true := decide_eq_true c5
          clear c5
          by_cases c6 : 0 ≤ x5_1
          · rw [if_pos c6] at H
            have c6b0 : decide (0 ≤ x5_1) = true := decide_eq_true c6
            clear c6
            replace H := Option.bind_eq_some_iff.mp H
            obtain ⟨t172, A80, H⟩ := H
            replace H : (if t172 = true then (gantletref14_Check.l0 k1 a0 a1 (wrap64 (x5_1 + 1))) else (some false)) = some r := H
            have A8 := Aside0.mk A80
            clear A80
            by_cases c9 : t172 = true
            · subst c9
              have H1 : (gantletref14_Check.l0 k1 a0 a1 (wrap64 (x5_1 + 1))) = some r := by rw [if_pos rfl] at H; exact H
              clear H
              have H := H1
              clear H1
              have H' := Aside0.mk H
              clear H
              have p7 : 0 ≤ (x5_1 : Int) := of_decide_eq_true (by first | (with_reducible assumption) | assumption)
              have q7 : x5_1 < (a1.size : Int) := of_decide_eq_true (by first | (with_reducible assumption) | assumption)
              have hx7 := bt_at a1 x5_1
              replace p7 := eq_true p7
              replace q7 := eq_true q7
              go_wp2_with (first | ((with_reducible refine gate_callee (f := 18) rfl ?_); refine goesL_ (some 20) rfl rfl Try.func18 (by kernel_rfl) rfl #[.int .i64 a0, .int .u8 (bt a1 x5_1)] rfl (by (try simp only [List.map_toArray, List.map_cons, List.map_nil]); first | done | rfl | (simp only [List.length_drop, List.length_take]; rfl)) ?_; (with_reducible refine (gantletref14_plain.calls k1 a0 (bt a1 x5_1) true _ A8.out).mono ?_); rintro e w' ⟨rfl, ⟨nd, rfl⟩⟩; refine ⟨_, rfl, ?_⟩))
              go_roundg k1
              case measure => have := HK1.out; omega
              case rel => exact ⟨(wrap64 (x5_1 + 1)), (by first | rfl | (simp; done) | (simp [*]; done)), H', ⟨by have := HK1.out; omega⟩, by repeat (first | exact Drawn0.refl _ | apply Drawn0.step)⟩
            · replace c9 := Bool.eq_false_iff.mpr c9
              subst c9
              have H1 : (some false) = some r := by rw [if_neg (show ¬ (false = true) by decide)] at H; exact H
              clear H
              have H := H1
              clear H1
              obtain rfl := Option.some.inj H
              have p7 : 0 ≤ (x5_1 : Int) := of_decide_eq_true (by first | (with_reducible assumption) | assumption)
              have q7 : x5_1 < (a1.size : Int) := of_decide_eq_true (by first | (with_reducible assumption) | assumption)
              have hx7 := bt_at a1 x5_1
              replace p7 := eq_true p7
              replace q7 := eq_true q7
              go_wp2_with (first | ((with_reducible refine gate_callee (f := 18) rfl ?_); refine goesL_ (some 20) rfl rfl Try.func18 (by kernel_rfl) rfl #[.int .i64 a0, .int .u8 (bt a1 x5_1)] rfl (by (try simp only [List.map_toArray, List.map_cons, List.map_nil]); first | done | rfl | (simp only [List.length_drop, List.length_take]; rfl)) ?_; (with_reducible refine (gantletref14_plain.calls k1 a0 (bt a1 x5_1) false _ A8.out).mono ?_); rintro e w' ⟨rfl, ⟨nd, rfl⟩⟩; refine ⟨_, rfl, ?_⟩))
              go_ret
              exact ⟨by first | rfl | (simp; done) | (simp [*]; done), by repeat (first | exact Drawn0.refl _ | apply Drawn0.step)⟩
          · rw [if_neg c6] at H
            exact absurd H (by simp)
        · rw [if_neg c5] at H
          have c5b0 : decide (x5_1 < (a1.size : Int)) = false := decide_eq_false c5
          clear c5
          obtain rfl := Option.some.inj H
          go_wp2
          go_ret
          exact ⟨by first | rfl | (simp; done) | (simp [*]; done), by repeat (first | exact Drawn0.refl _ | apply Drawn0.step)⟩

/-! ### gantletref14_last: function 19 -/
def gantletref14_last.l0 : Nat → ByteArray → Int → Option (Int)
  | 0, _, _ => none
  | k + 1, x0, x3 => if x3 < (x0.size : Int) then ((gantletref14_char.f k x0 x3).bind fun t173 => (if t173 = 0 then (if (wrap64 ((x0.size : Int) - x3)) > 3 then (some (-1)) else (some x3)) else (gantletref14_last.l0 k x0 (wrap64 (x3 + t173))))) else (if (wrap64 ((x0.size : Int) - x3)) > 3 then (some (-1)) else (some x3))
def gantletref14_last.f (k : Nat) (a0 : ByteArray) : Option (Int) := gantletref14_last.l0 k a0 0
theorem gantletref14_last.mono_l : ∀ k, (∀ y0 y1, LeO (gantletref14_last.l0 k y0 y1) (gantletref14_last.l0 (k + 1) y0 y1))
  | 0 => fun _ _ r h => by simp [gantletref14_last.l0] at h
  | k + 1 => by
    have ih0 := gantletref14_last.mono_l k
    · intro y0 y1
      unfold gantletref14_last.l0
      repeat' first
      | (with_reducible exact ih0 _ _)
      | (with_reducible exact gantletref14_char.mono _ _ _)
      | (with_reducible exact LeO.refl _)
      | (with_reducible exact LeO.none _)
      | (with_reducible refine LeO.ite ?_ ?_)
      | (with_reducible refine LeO.bind ?_ (fun _ => ?_))
      | exact ih0 _ _
      | exact gantletref14_char.mono _ _ _
      | exact LeO.none _
      | refine LeO.ite ?_ ?_
      | refine LeO.bind ?_ (fun _ => ?_)
theorem gantletref14_last.mono : ∀ a0 k, LeO (gantletref14_last.f k a0) (gantletref14_last.f (k + 1) a0) := by
  intro a0 k
  have ih0 := gantletref14_last.mono_l k
  unfold gantletref14_last.f
  repeat' first
      | (with_reducible exact ih0 _ _)
      | (with_reducible exact gantletref14_char.mono _ _ _)
      | (with_reducible exact LeO.refl _)
      | (with_reducible exact LeO.none _)
      | (with_reducible refine LeO.ite ?_ ?_)
      | (with_reducible refine LeO.bind ?_ (fun _ => ?_))
      | exact ih0 _ _
      | exact gantletref14_char.mono _ _ _
      | exact LeO.none _
      | refine LeO.ite ?_ ?_
      | refine LeO.bind ?_ (fun _ => ?_)
set_option maxHeartbeats 8000000 in
set_option maxRecDepth 100000 in
theorem gantletref14_last.calls (k : Nat) (a0 : ByteArray) (r : Int) (w : World) (h : gantletref14_last.f k a0 = some r) :
    Calls Try.prog 19 #[.string a0] w fun e w' => e = .returned (.int .i64 r) ∧ Drawn0 w w' := by
  have H : (gantletref14_last.l0 k a0 0) = some r := h
  clear h
  have H' := Aside0.mk H
  clear H
  go_enter Try.func19, Try.ntmps19
  go_wp2
  go_loopg [3] k (fun kq v3 w' => ∃ (x3_1 : Int), v3 = .int .i64 x3_1 ∧ Aside0 (gantletref14_last.l0 kq a0 x3_1 = some r) ∧ Aside0 (kq ≤ k) ∧ Drawn0 w w')
  case atStart => exact ⟨(0), (by first | rfl | (simp; done) | (simp [*]; done)), H', ⟨Nat.le_refl _⟩, by repeat (first | exact Drawn0.refl _ | apply Drawn0.step)⟩
  case round =>
    clear H'
    try clear c1
    obtain ⟨x3_1, rfl, HA, HK1, ⟨m1, rfl⟩⟩ := hrel
    cases gk with
    | zero => exact absurd HA.out (by simp [gantletref14_last.l0])
    | succ k1 =>
      have H := HA.out
      clear HA
      simp only [gantletref14_last.l0] at H
      by_cases c2 : x3_1 < (a0.size : Int)
      · rw [if_pos c2] at H
        have c2b0 : decide (x3_1 < (a0.size : Int)) = true := decide_eq_true c2
        clear c2
        replace H := Option.bind_eq_some_iff.mp H
        obtain ⟨t173, A30, H⟩ := H
        replace H : (if t173 = 0 then (if (wrap64 ((a0.size : Int) - x3_1)) > 3 then (some (-1)) else (some x3_1)) else (gantletref14_last.l0 k1 a0 (wrap64 (x3_1 + t173)))) = some r := H
        have A3 := Aside0.mk A30
        clear A30
        by_cases c4 : t173 = 0
        · rw [if_pos c4] at H
          have c4b0 : (t173 == 0) = true := beq_iff_eq.mpr c4
          have c4b1 : (t173 != 0) = false := bne_eq_false_iff_eq.mpr c4
          clear c4
          by_cases c5 : (wrap64 ((a0.size : Int) - x3_1)) > 3
          · rw [if_pos c5] at H
            have c5b0 : decide (3 < (wrap64 ((a0.size : Int) - x3_1))) = true := decide_eq_true c5
            (try (have c5w0 : decide (3 < (((a0.size : Int) - x3_1))) = true := by (have hw_ : wrap64 ((a0.size : Int) - x3_1) = ((a0.size : Int) - x3_1) := by (unfold wrap64; omega)); have hx_ := c5b0; rw [hw_] at hx_; exact hx_))
            clear c5
            obtain rfl := Option.some.inj H
            go_wp2_with (first | ((with_reducible refine gate_callee (f := 20) rfl ?_); refine goesL_ (some 11) rfl rfl Try.func20 (by kernel_rfl) rfl #[.string a0, .int .i64 x3_1] rfl (by (try simp only [List.map_toArray, List.map_cons, List.map_nil]); first | done | rfl | (simp only [List.length_drop, List.length_take]; rfl)) ?_; (with_reducible refine (gantletref14_char.calls k1 a0 x3_1 t173 _ A3.out).mono ?_); rintro e w' ⟨rfl, ⟨nd, rfl⟩⟩; refine ⟨_, rfl, ?_⟩))
            go_ret
            exact ⟨by first | rfl | (simp; done) | (simp [*]; done), by repeat (first | exact Drawn0.refl _ | apply Drawn0.step)⟩
          · rw [if_neg c5] at H
            have c5b0 : decide (3 < (wrap64 ((a0.size : Int) - x3_1))) = false := decide_eq_false c5
            (try (have c5w0 : decide (3 < (((a0.size : Int) - x3_1))) = false := by (have hw_ : wrap64 ((a0.size : Int) - x3_1) = ((a0.size : Int) - x3_1) := by (unfold wrap64; omega)); have hx_ := c5b0; rw [hw_] at hx_; exact hx_))
            clear c5
            obtain rfl := Option.some.inj H
            go_wp2_with (first | ((with_reducible refine gate_callee (f := 20) rfl ?_); refine goesL_ (some 11) rfl rfl Try.func20 (by kernel_rfl) rfl #[.string a0, .int .i64 x3_1] rfl (by (try simp only [List.map_toArray, List.map_cons, List.map_nil]); first | done | rfl | (simp only [List.length_drop, List.length_take]; rfl)) ?_; (with_reducible refine (gantletref14_char.calls k1 a0 x3_1 t173 _ A3.out).mono ?_); rintro e w' ⟨rfl, ⟨nd, rfl⟩⟩; refine ⟨_, rfl, ?_⟩))
            go_ret
            exact ⟨by first | rfl | (simp; done) | (simp [*]; done), by repeat (first | exact Drawn0.refl _ | apply Drawn0.step)⟩
        · rw [if_neg c4] at H
          have c4b0 : (t173 == 0) = false := beq_eq_false_iff_ne.mpr c4
          have c4b1 : (t173 != 0) = true := bne_iff_ne.mpr c4
          have H' := Aside0.mk H
          clear H
          go_wp2_with (first | ((with_reducible refine gate_callee (f := 20) rfl ?_); refine goesL_ (some 11) rfl rfl Try.func20 (by kernel_rfl) rfl #[.string a0, .int .i64 x3_1] rfl (by (try simp only [List.map_toArray, List.map_cons, List.map_nil]); first | done | rfl | (simp only [List.length_drop, List.length_take]; rfl)) ?_; (with_reducible refine (gantletref14_char.calls k1 a0 x3_1 t173 _ A3.out).mono ?_); rintro e w' ⟨rfl, ⟨nd, rfl⟩⟩; refine ⟨_, rfl, ?_⟩))
          go_roundg k1
          case measure => have := HK1.out; omega
          case rel => exact ⟨(wrap64 (x3_1 + t173)), (by first | rfl | (simp; done) | (simp [*]; done)), H', ⟨by have := HK1.out; omega⟩, by repeat (first | exact Drawn0.refl _ | apply Drawn0.step)⟩
      · rw [if_neg c2] at H
        have c2b0 : decide (x3_1 < (a0.size : Int)) = false := decide_eq_false c2
        clear c2
        by_cases c6 : (wrap64 ((a0.size : Int) - x3_1)) > 3
        · rw [if_pos c6] at H
          have c6b0 : decide (3 < (wrap64 ((a0.size : Int) - x3_1))) = true := decide_eq_true c6
          (try (have c6w0 : decide (3 < (((a0.size : Int) - x3_1))) = true := by (have hw_ : wrap64 ((a0.size : Int) - x3_1) = ((a0.size : Int) - x3_1) := by (unfold wrap64; omega)); have hx_ := c6b0; rw [hw_] at hx_; exact hx_))
          clear c6
          obtain rfl := Option.some.inj H
          go_wp2
          go_ret
          exact ⟨by first | rfl | (simp; done) | (simp [*]; done), by repeat (first | exact Drawn0.refl _ | apply Drawn0.step)⟩
        · rw [if_neg c6] at H
          have c6b0 : decide (3 < (wrap64 ((a0.size : Int) - x3_1))) = false := decide_eq_false c6
          (try (have c6w0 : decide (3 < (((a0.size : Int) - x3_1))) = false := by (have hw_ : wrap64 ((a0.size : Int) - x3_1) = ((a0.size : Int) - x3_1) := by (unfold wrap64; omega)); have hx_ := c6b0; rw [hw_] at hx_; exact hx_))
          clear c6
          obtain rfl := Option.some.inj H
          go_wp2
          go_ret
          exact ⟨by first | rfl | (simp; done) | (simp [*]; done), by repeat (first | exact Drawn0.refl _ | apply Drawn0.step)⟩

end Go.Proofs.Ytjookjdpfbflkaa.PA
