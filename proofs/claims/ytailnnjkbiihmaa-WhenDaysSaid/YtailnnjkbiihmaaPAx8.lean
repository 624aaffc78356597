-- Written by a program of this session (print2, a turned print): not PRINTED BY print.sh
import Derived.Test.YtailnnjkbiihmaaPAx0
import Derived.Test.YtailnnjkbiihmaaPAx1
import Derived.Test.YtailnnjkbiihmaaPAx2
import Derived.Test.YtailnnjkbiihmaaPAx3
import Derived.Test.YtailnnjkbiihmaaPAx4
namespace Go.Proofs.Ytailnnjkbiihmaa.PA
open Go.RowKit Go.Proofs.YtailnnjkbiihmaaW.PrintWords Go.Proofs.YtailnnjkbiihmaaW.PrintLast Go.Proofs.YtailnnjkbiihmaaW.PrintMore
attribute [local go_sem] max2_int min2_int max_two min_two max_three min_three max_four min_four   -- for this text's walks alone
set_option linter.unusedVariables false
set_option linter.unusedSimpArgs false

/-! ### gantletlaw13_WhenOne: function 6 -/
def gantletlaw13_WhenOne.j0 : Nat → Int → ByteArray → Bool → Option (Bool)
  | 0, _, _, _ => none
  | k + 1, x0, x1, x16 => if x16 = true then ((gantletlaw13_awake.f k).bind fun t200 => (some t200)) else ((when_Get.f k x0 x1).bind fun bt201 => (if bt201.2 = true then ((when_Put.f k bt201.1).bind fun bt203 => (if bt203.2.2 = true then (if bt203.1 = x0 then (if bt203.2.1.toList = x1.toList then (some ((bt201.1.size : Int) == 14)) else (none)) else (none)) else (none))) else (some (bt201.1.toList == ([] : List UInt8)))))
def gantletlaw13_WhenOne.f (k : Nat) (a0 : Int) (a1 : ByteArray) : Option (Bool) := (gantletlaw13_awake.f k).bind fun t199 => (if t199 = true then (gantletlaw13_WhenOne.j0 k a0 a1 (decide ((a1.size : Int) > 100))) else (gantletlaw13_WhenOne.j0 k a0 a1 true))
theorem gantletlaw13_WhenOne.mono_l : ∀ k, (∀ y0 y1 y2, LeO (gantletlaw13_WhenOne.j0 k y0 y1 y2) (gantletlaw13_WhenOne.j0 (k + 1) y0 y1 y2))
  | 0 => fun _ _ _ r h => by simp [gantletlaw13_WhenOne.j0] at h
  | k + 1 => by
    have ih0 := gantletlaw13_WhenOne.mono_l k
    · intro y0 y1 y2
      unfold gantletlaw13_WhenOne.j0
      repeat' first
      | (with_reducible exact ih0 _ _ _)
      | (with_reducible exact gantletlaw13_awake.mono _)
      | (with_reducible exact when_Get.mono _ _ _)
      | (with_reducible exact when_Put.mono _ _)
      | (with_reducible exact LeO.refl _)
      | (with_reducible exact LeO.none _)
      | (with_reducible refine LeO.ite ?_ ?_)
      | (with_reducible refine LeO.bind ?_ (fun _ => ?_))
      | exact ih0 _ _ _
      | exact gantletlaw13_awake.mono _
      | exact when_Get.mono _ _ _
      | exact when_Put.mono _ _
      | exact LeO.none _
      | refine LeO.ite ?_ ?_
      | refine LeO.bind ?_ (fun _ => ?_)
theorem gantletlaw13_WhenOne.mono : ∀ a0 a1 k, LeO (gantletlaw13_WhenOne.f k a0 a1) (gantletlaw13_WhenOne.f (k + 1) a0 a1) := by
  intro a0 a1 k
  have ih0 := gantletlaw13_WhenOne.mono_l k
  unfold gantletlaw13_WhenOne.f
  repeat' first
      | (with_reducible exact ih0 _ _ _)
      | (with_reducible exact gantletlaw13_awake.mono _)
      | (with_reducible exact when_Get.mono _ _ _)
      | (with_reducible exact when_Put.mono _ _)
      | (with_reducible exact LeO.refl _)
      | (with_reducible exact LeO.none _)
      | (with_reducible refine LeO.ite ?_ ?_)
      | (with_reducible refine LeO.bind ?_ (fun _ => ?_))
      | exact ih0 _ _ _
      | exact gantletlaw13_awake.mono _
      | exact when_Get.mono _ _ _
      | exact when_Put.mono _ _
      | exact LeO.none _
      | refine LeO.ite ?_ ?_
      | refine LeO.bind ?_ (fun _ => ?_)
set_option maxHeartbeats 8000000 in
set_option maxRecDepth 100000 in
theorem gantletlaw13_WhenOne.calls (k : Nat) (a0 : Int) (a1 : ByteArray) (r : Bool) (w : World) (h : gantletlaw13_WhenOne.f k a0 a1 = some r) :
    Calls Try.prog 6 #[.int .i64 a0, .string a1] w fun e w' => e = .returned (.bool r) ∧ Below w.heap.size w w' := by
  have HB := Aside0.mk (Below.refl w.heap.size w)
  have H : ((gantletlaw13_awake.f k).bind fun t199 => (if t199 = true then (gantletlaw13_WhenOne.j0 k a0 a1 (decide ((a1.size : Int) > 100))) else (gantletlaw13_WhenOne.j0 k a0 a1 true))) = some r := h
  clear h
  have HC3 := Aside0.mk H
  clear H
  go_enter Try.func6, Try.ntmps6
  go_upto_region 1 with (fail)
  go_cut [16] (fun v16 wc => ∃ (kq : Nat) (x16_2 : Bool), v16 = .bool x16_2 ∧ Aside0 (gantletlaw13_WhenOne.j0 kq a0 a1 x16_2 = some r) ∧ Aside0 (kq ≤ k) ∧ Aside0 (Below w.heap.size w wc))
  case first =>
    have H := HC3.out
    clear HC3
    replace H := Option.bind_eq_some_iff.mp H
    obtain ⟨t199, A40, H⟩ := H
    replace H : (if t199 = true then (gantletlaw13_WhenOne.j0 k a0 a1 (decide ((a1.size : Int) > 100))) else (gantletlaw13_WhenOne.j0 k a0 a1 true)) = some r := H
    have A4 := Aside0.mk A40
    clear A40
    by_cases c5 : t199 = true
    · subst c5
      have H1 : (gantletlaw13_WhenOne.j0 k a0 a1 (decide ((a1.size : Int) > 100))) = some r := by rw [if_pos rfl] at H; exact H
      clear H
      have H := H1
      clear H1
      have H' := Aside0.mk H
      clear H
      go_wp2_with (first | ((with_reducible refine gate_callee (f := 9) rfl ?_); refine goesL_ (some 10) rfl rfl Try.func9 (by kernel_rfl) rfl #[] rfl (by (try simp only [List.map_toArray, List.map_cons, List.map_nil]); first | done | rfl | (simp only [List.length_drop, List.length_take]; rfl)) ?_; (with_reducible refine (gantletlaw13_awake.calls k  true _ A4.out).mono ?_); rintro e w6 ⟨rfl, hb⟩; refine ⟨_, rfl, ?_⟩; have n0_ := Aside0.mk (below_step (by repeat (first | (with_reducible first | exact HB.out | apply below_alloc | apply pw_below_drewN | apply below_drew1) | exact HB.out)) hb); clear HB; have HB := n0_; clear n0_; (try clear hb); (try clear hb2); (try clear hk); (try clear hi)))
      go_meet
      case rel => exact ⟨_, (decide ((a1.size : Int) > 100)), (by first | rfl | (simp; done) | (simp [*]; done)), H', ⟨by first | omega | exact Nat.le_refl _⟩, ⟨by repeat (first | (with_reducible first | exact HB.out | apply below_alloc | apply pw_below_drewN | apply below_drew1) | exact HB.out)⟩⟩
    · replace c5 := Bool.eq_false_iff.mpr c5
      subst c5
      have H1 : (gantletlaw13_WhenOne.j0 k a0 a1 true) = some r := by rw [if_neg (show ¬ (false = true) by decide)] at H; exact H
      clear H
      have H := H1
      clear H1
      have H' := Aside0.mk H
      clear H
      go_wp2_with (first | ((with_reducible refine gate_callee (f := 9) rfl ?_); refine goesL_ (some 10) rfl rfl Try.func9 (by kernel_rfl) rfl #[] rfl (by (try simp only [List.map_toArray, List.map_cons, List.map_nil]); first | done | rfl | (simp only [List.length_drop, List.length_take]; rfl)) ?_; (with_reducible refine (gantletlaw13_awake.calls k  false _ A4.out).mono ?_); rintro e w7 ⟨rfl, hb⟩; refine ⟨_, rfl, ?_⟩; have n0_ := Aside0.mk (below_step (by repeat (first | (with_reducible first | exact HB.out | apply below_alloc | apply pw_below_drewN | apply below_drew1) | exact HB.out)) hb); clear HB; have HB := n0_; clear n0_; (try clear hb); (try clear hb2); (try clear hk); (try clear hi)))
      go_meet
      case rel => exact ⟨_, (true), (by first | rfl | (simp; done) | (simp [*]; done)), H', ⟨by first | omega | exact Nat.le_refl _⟩, ⟨by repeat (first | (with_reducible first | exact HB.out | apply below_alloc | apply pw_below_drewN | apply below_drew1) | exact HB.out)⟩⟩
  case rest =>
    clear HC3
    try clear p2
    try clear c5
    try clear c6
    obtain ⟨kq, x16_2, rfl, HA, HJ2, HB⟩ := hcut
    cases kq with
    | zero => exact absurd HA.out (by simp [gantletlaw13_WhenOne.j0])
    | succ kj2 =>
      have H := HA.out
      clear HA
      simp only [gantletlaw13_WhenOne.j0] at H
      by_cases c8 : x16_2 = true
      · subst c8
        have H1 : ((gantletlaw13_awake.f kj2).bind fun t200 => (some t200)) = some r := by rw [if_pos rfl] at H; exact H
        clear H
        have H := H1
        clear H1
        replace H := Option.bind_eq_some_iff.mp H
        obtain ⟨t200, A90, H⟩ := H
        replace H : (some t200) = some r := H
        have A9 := Aside0.mk A90
        clear A90
        obtain rfl := Option.some.inj H
        go_wp2_with (first | ((with_reducible refine gate_callee (f := 9) rfl ?_); refine goesL_ (some 17) rfl rfl Try.func9 (by kernel_rfl) rfl #[] rfl (by (try simp only [List.map_toArray, List.map_cons, List.map_nil]); first | done | rfl | (simp only [List.length_drop, List.length_take]; rfl)) ?_; (with_reducible refine (gantletlaw13_awake.calls kj2  t200 _ A9.out).mono ?_); rintro e w10 ⟨rfl, hb⟩; refine ⟨_, rfl, ?_⟩; have n0_ := Aside0.mk (below_step (by repeat (first | (with_reducible first | exact HB.out | apply below_alloc | apply pw_below_drewN | apply below_drew1) | exact HB.out)) hb); clear HB; have HB := n0_; clear n0_; (try clear hb); (try clear hb2); (try clear hk); (try clear hi)))
        go_ret
        exact ⟨by first | rfl | (simp [errW_none, errW_some] <;> rfl) | (simp [*, errW_none, errW_some] <;> rfl), by repeat (first | (with_reducible first | exact HB.out | apply below_alloc | apply pw_below_drewN | apply below_drew1) | exact HB.out)⟩
      · replace c8 := Bool.eq_false_iff.mpr c8
        subst c8
        have H1 : ((when_Get.f kj2 a0 a1).bind fun bt201 => (if bt201.2 = true then ((when_Put.f kj2 bt201.1).bind fun bt203 => (if bt203.2.2 = true then (if bt203.1 = a0 then (if bt203.2.1.toList = a1.toList then (some ((bt201.1.size : Int) == 14)) else (none)) else (none)) else (none))) else (some (bt201.1.toList == ([] : List UInt8))))) = some r := by rw [if_neg (show ¬ (false = true) by decide)] at H; exact H
        clear H
        have H := H1
        clear H1
        replace H := Option.bind_eq_some_iff.mp H
        obtain ⟨⟨t201, t202⟩, A110, H⟩ := H
        replace H : (if t202 = true then ((when_Put.f kj2 t201).bind fun bt203 => (if bt203.2.2 = true then (if bt203.1 = a0 then (if bt203.2.1.toList = a1.toList then (some ((t201.size : Int) == 14)) else (none)) else (none)) else (none))) else (some (t201.toList == ([] : List UInt8)))) = some r := H
        have A11 := Aside0.mk A110
        clear A110
        by_cases c12 : t202 = true
        · subst c12
          have H1 : ((when_Put.f kj2 t201).bind fun bt203 => (if bt203.2.2 = true then (if bt203.1 = a0 then (if bt203.2.1.toList = a1.toList then (some ((t201.size : Int) == 14)) else (none)) else (none)) else (none))) = some r := by rw [if_pos rfl] at H; exact H
          clear H
          have H := H1
          clear H1
          replace H := Option.bind_eq_some_iff.mp H
          obtain ⟨⟨t203, t204, t205⟩, A130, H⟩ := H
          replace H : (if t205 = true then (if t203 = a0 then (if t204.toList = a1.toList then (some ((t201.size : Int) == 14)) else (none)) else (none)) else (none)) = some r := H
          have A13 := Aside0.mk A130
          clear A130
          by_cases c14 : t205 = true
          · subst c14
            have H1 : (if t203 = a0 then (if t204.toList = a1.toList then (some ((t201.size : Int) == 14)) else (none)) else (none)) = some r := by rw [if_pos rfl] at H; exact H
            clear H
            have H := H1
            clear H1
            by_cases c15 : t203 = a0
            · rw [if_pos c15] at H
              have c15b0 : (t203 == a0) = true := beq_iff_eq.mpr c15
              have c15b1 : (t203 != a0) = false := bne_eq_false_iff_eq.mpr c15
              clear c15
              by_cases c16 : t204.toList = a1.toList
              · rw [if_pos c16] at H
                have c16b0 : (t204.toList == a1.toList) = true := beq_iff_eq.mpr c16
                have c16b1 : (t204.toList != a1.toList) = false := bne_eq_false_iff_eq.mpr c16
                clear c16
                obtain rfl := Option.some.inj H
                go_wp2_with (first | ((with_reducible refine gate_callee (f := 14) rfl ?_); refine goesL_ (some 21) rfl rfl Try.func14 (by kernel_rfl) rfl #[.int .i64 a0, .string a1] rfl (by (try simp only [List.map_toArray, List.map_cons, List.map_nil]); first | done | rfl | (simp only [List.length_drop, List.length_take]; rfl)) ?_; (with_reducible refine (when_Get.calls kj2 a0 a1 t201 true _ A11.out).mono ?_); rintro e w17 ⟨rfl, hb⟩; refine ⟨_, rfl, ?_⟩; have n0_ := Aside0.mk (below_step (by repeat (first | (with_reducible first | exact HB.out | apply below_alloc | apply pw_below_drewN | apply below_drew1) | exact HB.out)) hb); clear HB; have HB := n0_; clear n0_; (try clear hb); (try clear hb2); (try clear hk); (try clear hi)) | ((with_reducible refine gate_callee (f := 13) rfl ?_); refine goesL_ (some 30) rfl rfl Try.func13 (by kernel_rfl) rfl #[.string t201] rfl (by (try simp only [List.map_toArray, List.map_cons, List.map_nil]); first | done | rfl | (simp only [List.length_drop, List.length_take]; rfl)) ?_; (with_reducible refine (when_Put.calls kj2 t201 t203 t204 true _ A13.out).mono ?_); rintro e w18 ⟨rfl, hb⟩; refine ⟨_, rfl, ?_⟩; have n0_ := Aside0.mk (below_step (by repeat (first | (with_reducible first | exact HB.out | apply below_alloc | apply pw_below_drewN | apply below_drew1) | exact HB.out)) hb); clear HB; have HB := n0_; clear n0_; (try clear hb); (try clear hb2); (try clear hk); (try clear hi)))
                go_ret
                exact ⟨by first | rfl | (simp [errW_none, errW_some] <;> rfl) | (simp [*, errW_none, errW_some] <;> rfl), by repeat (first | (with_reducible first | exact HB.out | apply below_alloc | apply pw_below_drewN | apply below_drew1) | exact HB.out)⟩
              · rw [if_neg c16] at H
                exact absurd H (by simp)
            · rw [if_neg c15] at H
              exact absurd H (by simp)
          · replace c14 := Bool.eq_false_iff.mpr c14
            subst c14
            have H1 : (none) = some r := by rw [if_neg (show ¬ (false = true) by decide)] at H; exact H
            clear H
            have H := H1
            clear H1
            exact absurd H (by simp)
        · replace c12 := Bool.eq_false_iff.mpr c12
          subst c12
          have H1 : (some (t201.toList == ([] : List UInt8))) = some r := by rw [if_neg (show ¬ (false = true) by decide)] at H; exact H
          clear H
          have H := H1
          clear H1
          obtain rfl := Option.some.inj H
          go_wp2_with (first | ((with_reducible refine gate_callee (f := 14) rfl ?_); refine goesL_ (some 21) rfl rfl Try.func14 (by kernel_rfl) rfl #[.int .i64 a0, .string a1] rfl (by (try simp only [List.map_toArray, List.map_cons, List.map_nil]); first | done | rfl | (simp only [List.length_drop, List.length_take]; rfl)) ?_; (with_reducible refine (when_Get.calls kj2 a0 a1 t201 false _ A11.out).mono ?_); rintro e w19 ⟨rfl, hb⟩; refine ⟨_, rfl, ?_⟩; have n0_ := Aside0.mk (below_step (by repeat (first | (with_reducible first | exact HB.out | apply below_alloc | apply pw_below_drewN | apply below_drew1) | exact HB.out)) hb); clear HB; have HB := n0_; clear n0_; (try clear hb); (try clear hb2); (try clear hk); (try clear hi)))
          go_ret
          exact ⟨by first | rfl | (simp [errW_none, errW_some] <;> rfl) | (simp [*, errW_none, errW_some] <;> rfl), by repeat (first | (with_reducible first | exact HB.out | apply below_alloc | apply pw_below_drewN | apply below_drew1) | exact HB.out)⟩

/-- THE ONE PURE STATEMENT of gantletlaw13_WhenOne: yours. -/
def gantletlaw13_WhenOne.Pure : Prop := ∀ (a0 : Int) (a1 : ByteArray), (Lit.int .i64 a0).wf = true → a1.size ≤ 140737488351232 → ∃ k, gantletlaw13_WhenOne.f k a0 a1 = some true
theorem gantletlaw13_WhenOne.walk (P : gantletlaw13_WhenOne.Pure) (a0 : Int) (a1 : ByteArray) (w : World) (w0 : (Lit.int .i64 a0).wf = true) (w1 : a1.size ≤ 140737488351232) :
    Calls Try.prog 6 #[.int .i64 a0, .string a1] w fun e w' => e = .returned (.bool true) ∧ Below w.heap.size w w' := by
  obtain ⟨k, h⟩ := P a0 a1 w0 w1
  refine (gantletlaw13_WhenOne.calls k a0 a1 true w h).mono ?_
  rintro e w' ⟨rfl, hd⟩
  exact ⟨rfl, hd⟩

/-! ### gantletlaw13_WhenDays: function 7 -/
def gantletlaw13_WhenDays.j0 : Nat → ByteArray → Bool → Option (Bool)
  | 0, _, _ => none
  | k + 1, x2, x23 => if x23 = true then (none) else (if (x2.size : Int) > 100 then (some true) else ((when_Put.f k x2).bind fun bt209 => (if bt209.2.2 = true then (if (x2.size : Int) = 14 then (if 6 < (x2.size : Int) then (if 7 < (x2.size : Int) then (if 0 < (x2.size : Int) then (if 1 < (x2.size : Int) then (if 2 < (x2.size : Int) then (if 3 < (x2.size : Int) then (if 4 < (x2.size : Int) then (if 5 < (x2.size : Int) then (if ((10 * (((bt x2 6) - 48) % 256)) + (((bt x2 7) - 48) % 256)) ≥ 1 then ((when_Days.f ((((1000 * (((bt x2 0) - 48) % 256)) + (100 * (((bt x2 1) - 48) % 256))) + (10 * (((bt x2 2) - 48) % 256))) + (((bt x2 3) - 48) % 256)) ((10 * (((bt x2 4) - 48) % 256)) + (((bt x2 5) - 48) % 256))).bind fun t212 => (some (decide (((10 * (((bt x2 6) - 48) % 256)) + (((bt x2 7) - 48) % 256)) ≤ t212)))) else (none)) else (none)) else (none)) else (none)) else (none)) else (none)) else (none)) else (none)) else (none)) else (none)) else (some true))))
def gantletlaw13_WhenDays.f (k : Nat) (a0 : Int) (a1 : Int) (a2 : ByteArray) : Option (Bool) := (gantletlaw13_awake.f k).bind fun t206 => (if t206 = true then ((when_Days.f a0 a1).bind fun t207 => ((gantletref13_Days.f k a0 a1).bind fun t208 => (gantletlaw13_WhenDays.j0 k a2 (t207 != t208)))) else (gantletlaw13_WhenDays.j0 k a2 true))
theorem gantletlaw13_WhenDays.mono_l : ∀ k, (∀ y0 y1, LeO (gantletlaw13_WhenDays.j0 k y0 y1) (gantletlaw13_WhenDays.j0 (k + 1) y0 y1))
  | 0 => fun _ _ r h => by simp [gantletlaw13_WhenDays.j0] at h
  | k + 1 => by
    have ih0 := gantletlaw13_WhenDays.mono_l k
    · intro y0 y1
      unfold gantletlaw13_WhenDays.j0
      repeat' first
      | (with_reducible exact ih0 _ _)
      | (with_reducible exact gantletlaw13_awake.mono _)
      | (with_reducible exact gantletref13_Days.mono _ _ _)
      | (with_reducible exact when_Put.mono _ _)
      | (with_reducible exact LeO.refl _)
      | (with_reducible exact LeO.none _)
      | (with_reducible refine LeO.ite ?_ ?_)
      | (with_reducible refine LeO.bind ?_ (fun _ => ?_))
      | exact ih0 _ _
      | exact gantletlaw13_awake.mono _
      | exact gantletref13_Days.mono _ _ _
      | exact when_Put.mono _ _
      | exact LeO.none _
      | refine LeO.ite ?_ ?_
      | refine LeO.bind ?_ (fun _ => ?_)
theorem gantletlaw13_WhenDays.mono : ∀ a0 a1 a2 k, LeO (gantletlaw13_WhenDays.f k a0 a1 a2) (gantletlaw13_WhenDays.f (k + 1) a0 a1 a2) := by
  intro a0 a1 a2 k
  have ih0 := gantletlaw13_WhenDays.mono_l k
  unfold gantletlaw13_WhenDays.f
  repeat' first
      | (with_reducible exact ih0 _ _)
      | (with_reducible exact gantletlaw13_awake.mono _)
      | (with_reducible exact gantletref13_Days.mono _ _ _)
      | (with_reducible exact when_Put.mono _ _)
      | (with_reducible exact LeO.refl _)
      | (with_reducible exact LeO.none _)
      | (with_reducible refine LeO.ite ?_ ?_)
      | (with_reducible refine LeO.bind ?_ (fun _ => ?_))
      | exact ih0 _ _
      | exact gantletlaw13_awake.mono _
      | exact gantletref13_Days.mono _ _ _
      | exact when_Put.mono _ _
      | exact LeO.none _
      | refine LeO.ite ?_ ?_
      | refine LeO.bind ?_ (fun _ => ?_)
set_option maxHeartbeats 8000000 in
set_option maxRecDepth 100000 in
theorem gantletlaw13_WhenDays.calls (k : Nat) (a0 : Int) (a1 : Int) (a2 : ByteArray) (r : Bool) (w : World) (h : gantletlaw13_WhenDays.f k a0 a1 a2 = some r) :
    Calls Try.prog 7 #[.int .i64 a0, .int .i64 a1, .string a2] w fun e w' => e = .returned (.bool r) ∧ Below w.heap.size w w' := by
  have HB := Aside0.mk (Below.refl w.heap.size w)
  have H : ((gantletlaw13_awake.f k).bind fun t206 => (if t206 = true then ((when_Days.f a0 a1).bind fun t207 => ((gantletref13_Days.f k a0 a1).bind fun t208 => (gantletlaw13_WhenDays.j0 k a2 (t207 != t208)))) else (gantletlaw13_WhenDays.j0 k a2 true))) = some r := h
  clear h
  have HC4 := Aside0.mk H
  clear H
  go_enter Try.func7, Try.ntmps7
  go_upto_region 1 with (fail)
  repeat (go_quiet (fail); go_upto_region 1 with (fail))
  go_cut [23] (fun v23 wc => ∃ (kq : Nat) (x23_3 : Bool), v23 = .bool x23_3 ∧ Aside0 (gantletlaw13_WhenDays.j0 kq a2 x23_3 = some r) ∧ Aside0 (kq ≤ k) ∧ Aside0 (Below w.heap.size w wc))
  case first =>
    have H := HC4.out
    clear HC4
    replace H := Option.bind_eq_some_iff.mp H
    obtain ⟨t206, A50, H⟩ := H
    replace H : (if t206 = true then ((when_Days.f a0 a1).bind fun t207 => ((gantletref13_Days.f k a0 a1).bind fun t208 => (gantletlaw13_WhenDays.j0 k a2 (t207 != t208)))) else (gantletlaw13_WhenDays.j0 k a2 true)) = some r := H
    have A5 := Aside0.mk A50
    clear A50
    by_cases c6 : t206 = true
    · subst c6
      have H1 : ((when_Days.f a0 a1).bind fun t207 => ((gantletref13_Days.f k a0 a1).bind fun t208 => (gantletlaw13_WhenDays.j0 k a2 (t207 != t208)))) = some r := by rw [if_pos rfl] at H; exact H
      clear H
      have H := H1
      clear H1
      replace H := Option.bind_eq_some_iff.mp H
      obtain ⟨t207, A70, H⟩ := H
      replace H : ((gantletref13_Days.f k a0 a1).bind fun t208 => (gantletlaw13_WhenDays.j0 k a2 (t207 != t208))) = some r := H
      have A7 := Aside0.mk A70
      clear A70
      replace H := Option.bind_eq_some_iff.mp H
      obtain ⟨t208, A80, H⟩ := H
      replace H : (gantletlaw13_WhenDays.j0 k a2 (t207 != t208)) = some r := H
      have A8 := Aside0.mk A80
      clear A80
      have H' := Aside0.mk H
      clear H
      go_wp2_with (first | (go_at_call 9; (with_reducible refine (gantletlaw13_awake.calls k  true _ A5.out).mono ?_); rintro e w9 ⟨rfl, hb⟩; have n0_ := Aside0.mk (below_step (by repeat (first | (with_reducible first | exact HB.out | apply below_alloc | apply pw_below_drewN | apply below_drew1) | exact HB.out)) hb); clear HB; have HB := n0_; clear n0_; (try clear hb); (try clear hb2); (try clear hk); (try clear hi)) | (go_at_call 18; (with_reducible refine (when_Days.calls a0 a1 t207 _ A7.out).mono ?_); rintro e w' ⟨rfl, ⟨nd, rfl⟩⟩; (try first | exact ⟨rfl, _, World.drewN_drewN _ _ _⟩ | exact ⟨rfl, _, Eq.trans (World.drewN_drewN _ _ _) (congrArg (World.drewN _) (Nat.add_assoc _ _ _))⟩)) | (go_at_call 19; (with_reducible refine (gantletref13_Days.calls k a0 a1 t208 _ A8.out).mono ?_); rintro e w' ⟨rfl, ⟨nd, rfl⟩⟩; (try first | exact ⟨rfl, _, World.drewN_drewN _ _ _⟩ | exact ⟨rfl, _, Eq.trans (World.drewN_drewN _ _ _) (congrArg (World.drewN _) (Nat.add_assoc _ _ _))⟩)))
      repeat (go_quiet (first | (go_at_call 9; (with_reducible refine (gantletlaw13_awake.calls k  true _ A5.out).mono ?_); rintro e w9 ⟨rfl, hb⟩; have n0_ := Aside0.mk (below_step (by repeat (first | (with_reducible first | exact HB.out | apply below_alloc | apply pw_below_drewN | apply below_drew1) | exact HB.out)) hb); clear HB; have HB := n0_; clear n0_; (try clear hb); (try clear hb2); (try clear hk); (try clear hi)) | (go_at_call 18; (with_reducible refine (when_Days.calls a0 a1 t207 _ A7.out).mono ?_); rintro e w' ⟨rfl, ⟨nd, rfl⟩⟩; (try first | exact ⟨rfl, _, World.drewN_drewN _ _ _⟩ | exact ⟨rfl, _, Eq.trans (World.drewN_drewN _ _ _) (congrArg (World.drewN _) (Nat.add_assoc _ _ _))⟩)) | (go_at_call 19; (with_reducible refine (gantletref13_Days.calls k a0 a1 t208 _ A8.out).mono ?_); rintro e w' ⟨rfl, ⟨nd, rfl⟩⟩; (try first | exact ⟨rfl, _, World.drewN_drewN _ _ _⟩ | exact ⟨rfl, _, Eq.trans (World.drewN_drewN _ _ _) (congrArg (World.drewN _) (Nat.add_assoc _ _ _))⟩))); try go_wp2_with (first | (go_at_call 9; (with_reducible refine (gantletlaw13_awake.calls k  true _ A5.out).mono ?_); rintro e w9 ⟨rfl, hb⟩; have n0_ := Aside0.mk (below_step (by repeat (first | (with_reducible first | exact HB.out | apply below_alloc | apply pw_below_drewN | apply below_drew1) | exact HB.out)) hb); clear HB; have HB := n0_; clear n0_; (try clear hb); (try clear hb2); (try clear hk); (try clear hi)) | (go_at_call 18; (with_reducible refine (when_Days.calls a0 a1 t207 _ A7.out).mono ?_); rintro e w' ⟨rfl, ⟨nd, rfl⟩⟩; (try first | exact ⟨rfl, _, World.drewN_drewN _ _ _⟩ | exact ⟨rfl, _, Eq.trans (World.drewN_drewN _ _ _) (congrArg (World.drewN _) (Nat.add_assoc _ _ _))⟩)) | (go_at_call 19; (with_reducible refine (gantletref13_Days.calls k a0 a1 t208 _ A8.out).mono ?_); rintro e w' ⟨rfl, ⟨nd, rfl⟩⟩; (try first | exact ⟨rfl, _, World.drewN_drewN _ _ _⟩ | exact ⟨rfl, _, Eq.trans (World.drewN_drewN _ _ _) (congrArg (World.drewN _) (Nat.add_assoc _ _ _))⟩))))
      go_meet
      case rel => exact ⟨_, ((t207 != t208)), (by first | rfl | (simp; done) | (simp [*]; done)), H', ⟨by first | omega | exact Nat.le_refl _⟩, ⟨by repeat (first | (with_reducible first | exact HB.out | apply below_alloc | apply pw_below_drewN | apply below_drew1) | exact HB.out)⟩⟩
    · replace c6 := Bool.eq_false_iff.mpr c6
      subst c6
      have H1 : (gantletlaw13_WhenDays.j0 k a2 true) = some r := by rw [if_neg (show ¬ (false = true) by decide)] at H; exact H
      clear H
      have H := H1
      clear H1
      have H' := Aside0.mk H
      clear H
      go_wp2_with (first | (go_at_call 9; (with_reducible refine (gantletlaw13_awake.calls k  false _ A5.out).mono ?_); rintro e w10 ⟨rfl, hb⟩; have n0_ := Aside0.mk (below_step (by repeat (first | (with_reducible first | exact HB.out | apply below_alloc | apply pw_below_drewN | apply below_drew1) | exact HB.out)) hb); clear HB; have HB := n0_; clear n0_; (try clear hb); (try clear hb2); (try clear hk); (try clear hi)))
      repeat (go_quiet (first | (go_at_call 9; (with_reducible refine (gantletlaw13_awake.calls k  false _ A5.out).mono ?_); rintro e w10 ⟨rfl, hb⟩; have n0_ := Aside0.mk (below_step (by repeat (first | (with_reducible first | exact HB.out | apply below_alloc | apply pw_below_drewN | apply below_drew1) | exact HB.out)) hb); clear HB; have HB := n0_; clear n0_; (try clear hb); (try clear hb2); (try clear hk); (try clear hi))); try go_wp2_with (first | (go_at_call 9; (with_reducible refine (gantletlaw13_awake.calls k  false _ A5.out).mono ?_); rintro e w10 ⟨rfl, hb⟩; have n0_ := Aside0.mk (below_step (by repeat (first | (with_reducible first | exact HB.out | apply below_alloc | apply pw_below_drewN | apply below_drew1) | exact HB.out)) hb); clear HB; have HB := n0_; clear n0_; (try clear hb); (try clear hb2); (try clear hk); (try clear hi))))
      go_meet
      case rel => exact ⟨_, (true), (by first | rfl | (simp; done) | (simp [*]; done)), H', ⟨by first | omega | exact Nat.le_refl _⟩, ⟨by repeat (first | (with_reducible first | exact HB.out | apply below_alloc | apply pw_below_drewN | apply below_drew1) | exact HB.out)⟩⟩
  case rest =>
    clear HC4
    try clear p2
    try clear c6
    try clear c7
    obtain ⟨kq, x23_3, rfl, HA, HJ3, HB⟩ := hcut
    cases kq with
    | zero => exact absurd HA.out (by simp [gantletlaw13_WhenDays.j0])
    | succ kj3 =>
      have H := HA.out
      clear HA
      simp only [gantletlaw13_WhenDays.j0] at H
      by_cases c11 : x23_3 = true
      · subst c11
        have H1 : (none) = some r := by rw [if_pos rfl] at H; exact H
        clear H
        have H := H1
        clear H1
        exact absurd H (by simp)
      · replace c11 := Bool.eq_false_iff.mpr c11
        subst c11
        have H1 : (if (a2.size : Int) > 100 then (some true) else ((when_Put.f kj3 a2).bind fun bt209 => (if bt209.2.2 = true then (if (a2.size : Int) = 14 then (if 6 < (a2.size : Int) then (if 7 < (a2.size : Int) then (if 0 < (a2.size : Int) then (if 1 < (a2.size : Int) then (if 2 < (a2.size : Int) then (if 3 < (a2.size : Int) then (if 4 < (a2.size : Int) then (if 5 < (a2.size : Int) then (if ((10 * (((bt a2 6) - 48) % 256)) + (((bt a2 7) - 48) % 256)) ≥ 1 then ((when_Days.f ((((1000 * (((bt a2 0) - 48) % 256)) + (100 * (((bt a2 1) - 48) % 256))) + (10 * (((bt a2 2) - 48) % 256))) + (((bt a2 3) - 48) % 256)) ((10 * (((bt a2 4) - 48) % 256)) + (((bt a2 5) - 48) % 256))).bind fun t212 => (some (decide (((10 * (((bt a2 6) - 48) % 256)) + (((bt a2 7) - 48) % 256)) ≤ t212)))) else (none)) else (none)) else (none)) else (none)) else (none)) else (none)) else (none)) else (none)) else (none)) else (none)) else (some true)))) = some r := by rw [if_neg (show ¬ (false = true) by decide)] at H; exact H
        clear H
        have H := H1
        clear H1
        by_cases c12 : (a2.size : Int) > 100
        · rw [if_pos c12] at H
          have c12b0 : decide (100 < (a2.size : Int)) = true := decide_eq_true c12
          have c12b1 : decide (100 < a2.size) = true := decide_eq_true (by omega)
          clear c12
          obtain rfl := Option.some.inj H
          go_wp2
          repeat (go_quiet (fail); try go_wp2)
          go_ret
          exact ⟨by first | rfl | (simp [errW_none, errW_some] <;> rfl) | (simp [*, errW_none, errW_some] <;> rfl), by repeat (first | (with_reducible first | exact HB.out | apply below_alloc | apply pw_below_drewN | apply below_drew1) | exact HB.out)⟩
        · rw [if_neg c12] at H
          have c12b0 : decide (100 < (a2.size : Int)) = false := decide_eq_false c12
          have c12b1 : decide (100 < a2.size) = false := decide_eq_false (by omega)
          clear c12
          replace H := Option.bind_eq_some_iff.mp H
          obtain ⟨⟨t209, t210, t211⟩, A130, H⟩ := H
          replace H : (if t211 = true then (if (a2.size : Int) = 14 then (if 6 < (a2.size : Int) then (if 7 < (a2.size : Int) then (if 0 < (a2.size : Int) then (if 1 < (a2.size : Int) then (if 2 < (a2.size : Int) then (if 3 < (a2.size : Int) then (if 4 < (a2.size : Int) then (if 5 < (a2.size : Int) then (if ((10 * (((bt a2 6) - 48) % 256)) + (((bt a2 7) - 48) % 256)) ≥ 1 then ((when_Days.f ((((1000 * (((bt a2 0) - 48) % 256)) + (100 * (((bt a2 1) - 48) % 256))) + (10 * (((bt a2 2) - 48) % 256))) + (((bt a2 3) - 48) % 256)) ((10 * (((bt a2 4) - 48) % 256)) + (((bt a2 5) - 48) % 256))).bind fun t212 => (some (decide (((10 * (((bt a2 6) - 48) % 256)) + (((bt a2 7) - 48) % 256)) ≤ t212)))) else (none)) else (none)) else (none)) else (none)) else (none)) else (none)) else (none)) else (none)) else (none)) else (none)) else (some true)) = some r := H
          have A13 := Aside0.mk A130
          clear A130
          by_cases c14 : t211 = true
          · subst c14
            have H1 : (if (a2.size : Int) = 14 then (if 6 < (a2.size : Int) then (if 7 < (a2.size : Int) then (if 0 < (a2.size : Int) then (if 1 < (a2.size : Int) then (if 2 < (a2.size : Int) then (if 3 < (a2.size : Int) then (if 4 < (a2.size : Int) then (if 5 < (a2.size : Int) then (if ((10 * (((bt a2 6) - 48) % 256)) + (((bt a2 7) - 48) % 256)) ≥ 1 then ((when_Days.f ((((1000 * (((bt a2 0) - 48) % 256)) + (100 * (((bt a2 1) - 48) % 256))) + (10 * (((bt a2 2) - 48) % 256))) + (((bt a2 3) - 48) % 256)) ((10 * (((bt a2 4) - 48) % 256)) + (((bt a2 5) - 48) % 256))).bind fun t212 => (some (decide (((10 * (((bt a2 6) - 48) % 256)) + (((bt a2 7) - 48) % 256)) ≤ t212)))) else (none)) else (none)) else (none)) else (none)) else (none)) else (none)) else (none)) else (none)) else (none)) else (none)) = some r := by rw [if_pos rfl] at H; exact H
            clear H
            have H := H1
            clear H1
            by_cases c15 : (a2.size : Int) = 14
            · rw [if_pos c15] at H
              have c15b0 : ((a2.size : Int) == 14) = true := beq_iff_eq.mpr c15
              have c15b1 : ((a2.size : Int) != 14) = false := bne_eq_false_iff_eq.mpr c15
              clear c15
              by_cases c16 : 6 < (a2.size : Int)
              · rw [if_pos c16] at H
                have c16b0 : decide (6 < (a2.size : Int)) = true := decide_eq_true c16
                have c16b1 : decide (6 < a2.size) = true := decide_eq_true (by omega)
                clear c16
                by_cases c18 : 7 < (a2.size : Int)
                · rw [if_pos c18] at H
                  have c18b0 : decide (7 < (a2.size : Int)) = true := decide_eq_true c18
                  have c18b1 : decide (7 < a2.size) = true := decide_eq_true (by omega)
                  clear c18
                  by_cases c20 : 0 < (a2.size : Int)
                  · rw [if_pos c20] at H
                    have c20b0 : decide (0 < (a2.size : Int)) = true := decide_eq_true c20
                    have c20b1 : decide (0 < a2.size) = true := decide_eq_true (by omega)
                    clear c20
                    by_cases c22 : 1 < (a2.size : Int)
                    · rw [if_pos c22] at H
                      have c22b0 : decide (1 < (a2.size : Int)) = true := decide_eq_true c22
                      have c22b1 : decide (1 < a2.size) = true := decide_eq_true (by omega)
                      clear c22
                      by_cases c24 : 2 < (a2.size : Int)
                      · rw [if_pos c24] at H
                        have c24b0 : decide (2 < (a2.size : Int)) = true := decide_eq_true c24
                        have c24b1 : decide (2 < a2.size) = true := decide_eq_true (by omega)
                        clear c24
                        by_cases c26 : 3 < (a2.size : Int)
                        · rw [if_pos c26] at H
                          have c26b0 : decide (3 < (a2.size : Int)) = true := decide_eq_true c26
                          have c26b1 : decide (3 < a2.size) = true := decide_eq_true (by omega)
                          clear c26
                          by_cases c28 : 4 < (a2.size : Int)
                          · rw [if_pos c28] at H
                            have c28b0 : decide (4 < (a2.size : Int)) = true := decide_eq_true c28
                            have c28b1 : decide (4 < a2.size) = true := decide_eq_true (by omega)
                            clear c28
                            by_cases c30 : 5 < (a2.size : Int)
                            · rw [if_pos c30] at H
                              have c30b0 : decide (5 < (a2.size : Int)) = true := decide_eq_true c30
                              have c30b1 : decide (5 < a2.size) = true := decide_eq_true (by omega)
                              clear c30
                              by_cases c32 : ((10 * (((bt a2 6) - 48) % 256)) + (((bt a2 7) - 48) % 256)) ≥ 1
                              · rw [if_pos c32] at H
                                have c32b0 : decide (1 ≤ ((10 * (((bt a2 6) - 48) % 256)) + (((bt a2 7) - 48) % 256))) = true := decide_eq_true c32
                                clear c32
                                replace H := Option.bind_eq_some_iff.mp H
                                obtain ⟨t212, A330, H⟩ := H
                                replace H : (some (decide (((10 * (((bt a2 6) - 48) % 256)) + (((bt a2 7) - 48) % 256)) ≤ t212))) = some r := H
                                have A33 := Aside0.mk A330
                                clear A330
                                obtain rfl := Option.some.inj H
                                go_wp2_with (first | (go_at_call 13; (with_reducible refine (when_Put.calls kj3 a2 t209 t210 true _ A13.out).mono ?_); rintro e w34 ⟨rfl, hb⟩; have n0_ := Aside0.mk (below_step (by repeat (first | (with_reducible first | exact HB.out | apply below_alloc | apply pw_below_drewN | apply below_drew1) | exact HB.out)) hb); clear HB; have HB := n0_; clear n0_; (try clear hb); (try clear hb2); (try clear hk); (try clear hi); have p17 : 0 ≤ (6 : Int) := (by omega); have q17 : 6 < a2.size := (by have : (6 : Int) < (a2.size : Int) := of_decide_eq_true (by first | (with_reducible assumption) | assumption); omega); have hx17 : ∀ h : 6 < a2.size, ((a2[6]'h).toNat : Int) = bt a2 6 := bt_at a2 6; clear p17; have qi17 : (6 < (a2.size : Int)) = True := eq_true (of_decide_eq_true (by first | (with_reducible assumption) | assumption)); replace q17 := eq_true q17; have p19 : 0 ≤ (7 : Int) := (by omega); have q19 : 7 < a2.size := (by have : (7 : Int) < (a2.size : Int) := of_decide_eq_true (by first | (with_reducible assumption) | assumption); omega); have hx19 : ∀ h : 7 < a2.size, ((a2[7]'h).toNat : Int) = bt a2 7 := bt_at a2 7; clear p19; have qi19 : (7 < (a2.size : Int)) = True := eq_true (of_decide_eq_true (by first | (with_reducible assumption) | assumption)); replace q19 := eq_true q19; have p21 : 0 ≤ (0 : Int) := (by omega); have q21 : 0 < a2.size := (by have : (0 : Int) < (a2.size : Int) := of_decide_eq_true (by first | (with_reducible assumption) | assumption); omega); have hx21 : ∀ h : 0 < a2.size, ((a2[0]'h).toNat : Int) = bt a2 0 := bt_at a2 0; clear p21; have qi21 : (0 < (a2.size : Int)) = True := eq_true (of_decide_eq_true (by first | (with_reducible assumption) | assumption)); replace q21 := eq_true q21; have p23 : 0 ≤ (1 : Int) := (by omega); have q23 : 1 < a2.size := (by have : (1 : Int) < (a2.size : Int) := of_decide_eq_true (by first | (with_reducible assumption) | assumption); omega); have hx23 : ∀ h : 1 < a2.size, ((a2[1]'h).toNat : Int) = bt a2 1 := bt_at a2 1; clear p23; have qi23 : (1 < (a2.size : Int)) = True := eq_true (of_decide_eq_true (by first | (with_reducible assumption) | assumption)); replace q23 := eq_true q23; have p25 : 0 ≤ (2 : Int) := (by omega); have q25 : 2 < a2.size := (by have : (2 : Int) < (a2.size : Int) := of_decide_eq_true (by first | (with_reducible assumption) | assumption); omega); have hx25 : ∀ h : 2 < a2.size, ((a2[2]'h).toNat : Int) = bt a2 2 := bt_at a2 2; clear p25; have qi25 : (2 < (a2.size : Int)) = True := eq_true (of_decide_eq_true (by first | (with_reducible assumption) | assumption)); replace q25 := eq_true q25; have p27 : 0 ≤ (3 : Int) := (by omega); have q27 : 3 < a2.size := (by have : (3 : Int) < (a2.size : Int) := of_decide_eq_true (by first | (with_reducible assumption) | assumption); omega); have hx27 : ∀ h : 3 < a2.size, ((a2[3]'h).toNat : Int) = bt a2 3 := bt_at a2 3; clear p27; have qi27 : (3 < (a2.size : Int)) = True := eq_true (of_decide_eq_true (by first | (with_reducible assumption) | assumption)); replace q27 := eq_true q27; have p29 : 0 ≤ (4 : Int) := (by omega); have q29 : 4 < a2.size := (by have : (4 : Int) < (a2.size : Int) := of_decide_eq_true (by first | (with_reducible assumption) | assumption); omega); have hx29 : ∀ h : 4 < a2.size, ((a2[4]'h).toNat : Int) = bt a2 4 := bt_at a2 4; clear p29; have qi29 : (4 < (a2.size : Int)) = True := eq_true (of_decide_eq_true (by first | (with_reducible assumption) | assumption)); replace q29 := eq_true q29; have p31 : 0 ≤ (5 : Int) := (by omega); have q31 : 5 < a2.size := (by have : (5 : Int) < (a2.size : Int) := of_decide_eq_true (by first | (with_reducible assumption) | assumption); omega); have hx31 : ∀ h : 5 < a2.size, ((a2[5]'h).toNat : Int) = bt a2 5 := bt_at a2 5; clear p31; have qi31 : (5 < (a2.size : Int)) = True := eq_true (of_decide_eq_true (by first | (with_reducible assumption) | assumption)); replace q31 := eq_true q31) | (go_at_call 18; (with_reducible refine (when_Days.calls ((((1000 * (((bt a2 0) - 48) % 256)) + (100 * (((bt a2 1) - 48) % 256))) + (10 * (((bt a2 2) - 48) % 256))) + (((bt a2 3) - 48) % 256)) ((10 * (((bt a2 4) - 48) % 256)) + (((bt a2 5) - 48) % 256)) t212 _ A33.out).mono ?_); rintro e w' ⟨rfl, ⟨nd, rfl⟩⟩; (try first | exact ⟨rfl, _, World.drewN_drewN _ _ _⟩ | exact ⟨rfl, _, Eq.trans (World.drewN_drewN _ _ _) (congrArg (World.drewN _) (Nat.add_assoc _ _ _))⟩)))
                                repeat (go_quiet (first | (go_at_call 13; (with_reducible refine (when_Put.calls kj3 a2 t209 t210 true _ A13.out).mono ?_); rintro e w34 ⟨rfl, hb⟩; have n0_ := Aside0.mk (below_step (by repeat (first | (with_reducible first | exact HB.out | apply below_alloc | apply pw_below_drewN | apply below_drew1) | exact HB.out)) hb); clear HB; have HB := n0_; clear n0_; (try clear hb); (try clear hb2); (try clear hk); (try clear hi); have p17 : 0 ≤ (6 : Int) := (by omega); have q17 : 6 < a2.size := (by have : (6 : Int) < (a2.size : Int) := of_decide_eq_true (by first | (with_reducible assumption) | assumption); omega); have hx17 : ∀ h : 6 < a2.size, ((a2[6]'h).toNat : Int) = bt a2 6 := bt_at a2 6; clear p17; have qi17 : (6 < (a2.size : Int)) = True := eq_true (of_decide_eq_true (by first | (with_reducible assumption) | assumption)); replace q17 := eq_true q17; have p19 : 0 ≤ (7 : Int) := (by omega); have q19 : 7 < a2.size := (by have : (7 : Int) < (a2.size : Int) := of_decide_eq_true (by first | (with_reducible assumption) | assumption); omega); have hx19 : ∀ h : 7 < a2.size, ((a2[7]'h).toNat : Int) = bt a2 7 := bt_at a2 7; clear p19; have qi19 : (7 < (a2.size : Int)) = True := eq_true (of_decide_eq_true (by first | (with_reducible assumption) | assumption)); replace q19 := eq_true q19; have p21 : 0 ≤ (0 : Int) := (by omega); have q21 : 0 < a2.size := (by have : (0 : Int) < (a2.size : Int) := of_decide_eq_true (by first | (with_reducible assumption) | assumption); omega); have hx21 : ∀ h : 0 < a2.size, ((a2[0]'h).toNat : Int) = bt a2 0 := bt_at a2 0; clear p21; have qi21 : (0 < (a2.size : Int)) = True := eq_true (of_decide_eq_true (by first | (with_reducible assumption) | assumption)); replace q21 := eq_true q21; have p23 : 0 ≤ (1 : Int) := (by omega); have q23 : 1 < a2.size := (by have : (1 : Int) < (a2.size : Int) := of_decide_eq_true (by first | (with_reducible assumption) | assumption); omega); have hx23 : ∀ h : 1 < a2.size, ((a2[1]'h).toNat : Int) = bt a2 1 := bt_at a2 1; clear p23; have qi23 : (1 < (a2.size : Int)) = True := eq_true (of_decide_eq_true (by first | (with_reducible assumption) | assumption)); replace q23 := eq_true q23; have p25 : 0 ≤ (2 : Int) := (by omega); have q25 : 2 < a2.size := (by have : (2 : Int) < (a2.size : Int) := of_decide_eq_true (by first | (with_reducible assumption) | assumption); omega); have hx25 : ∀ h : 2 < a2.size, ((a2[2]'h).toNat : Int) = bt a2 2 := bt_at a2 2; clear p25; have qi25 : (2 < (a2.size : Int)) = True := eq_true (of_decide_eq_true (by first | (with_reducible assumption) | assumption)); replace q25 := eq_true q25; have p27 : 0 ≤ (3 : Int) := (by omega); have q27 : 3 < a2.size := (by have : (3 : Int) < (a2.size : Int) := of_decide_eq_true (by first | (with_reducible assumption) | assumption); omega); have hx27 : ∀ h : 3 < a2.size, ((a2[3]'h).toNat : Int) = bt a2 3 := bt_at a2 3; clear p27; have qi27 : (3 < (a2.size : Int)) = True := eq_true (of_decide_eq_true (by first | (with_reducible assumption) | assumption)); replace q27 := eq_true q27; have p29 : 0 ≤ (4 : Int) := (by omega); have q29 : 4 < a2.size := (by have : (4 : Int) < (a2.size : Int) := of_decide_eq_true (by first | (with_reducible assumption) | assumption); omega); have hx29 : ∀ h : 4 < a2.size, ((a2[4]'h).toNat : Int) = bt a2 4 := bt_at a2 4; clear p29; have qi29 : (4 < (a2.size : Int)) = True := eq_true (of_decide_eq_true (by first | (with_reducible assumption) | assumption)); replace q29 := eq_true q29; have p31 : 0 ≤ (5 : Int) := (by omega); have q31 : 5 < a2.size := (by have : (5 : Int) < (a2.size : Int) := of_decide_eq_true (by first | (with_reducible assumption) | assumption); omega); have hx31 : ∀ h : 5 < a2.size, ((a2[5]'h).toNat : Int) = bt a2 5 := bt_at a2 5; clear p31; have qi31 : (5 < (a2.size : Int)) = True := eq_true (of_decide_eq_true (by first | (with_reducible assumption) | assumption)); replace q31 := eq_true q31) | (go_at_call 18; (with_reducible refine (when_Days.calls ((((1000 * (((bt a2 0) - 48) % 256)) + (100 * (((bt a2 1) - 48) % 256))) + (10 * (((bt a2 2) - 48) % 256))) + (((bt a2 3) - 48) % 256)) ((10 * (((bt a2 4) - 48) % 256)) + (((bt a2 5) - 48) % 256)) t212 _ A33.out).mono ?_); rintro e w' ⟨rfl, ⟨nd, rfl⟩⟩; (try first | exact ⟨rfl, _, World.drewN_drewN _ _ _⟩ | exact ⟨rfl, _, Eq.trans (World.drewN_drewN _ _ _) (congrArg (World.drewN _) (Nat.add_assoc _ _ _))⟩))); try go_wp2_with (first | (go_at_call 13; (with_reducible refine (when_Put.calls kj3 a2 t209 t210 true _ A13.out).mono ?_); rintro e w34 ⟨rfl, hb⟩; have n0_ := Aside0.mk (below_step (by repeat (first | (with_reducible first | exact HB.out | apply below_alloc | apply pw_below_drewN | apply below_drew1) | exact HB.out)) hb); clear HB; have HB := n0_; clear n0_; (try clear hb); (try clear hb2); (try clear hk); (try clear hi); have p17 : 0 ≤ (6 : Int) := (by omega); have q17 : 6 < a2.size := (by have : (6 : Int) < (a2.size : Int) := of_decide_eq_true (by first | (with_reducible assumption) | assumption); omega); have hx17 : ∀ h : 6 < a2.size, ((a2[6]'h).toNat : Int) = bt a2 6 := bt_at a2 6; clear p17; have qi17 : (6 < (a2.size : Int)) = True := eq_true (of_decide_eq_true (by first | (with_reducible assumption) | assumption)); replace q17 := eq_true q17; have p19 : 0 ≤ (7 : Int) := (by omega); have q19 : 7 < a2.size := (by have : (7 : Int) < (a2.size : Int) := of_decide_eq_true (by first | (with_reducible assumption) | assumption); omega); have hx19 : ∀ h : 7 < a2.size, ((a2[7]'h).toNat : Int) = bt a2 7 := bt_at a2 7; clear p19; have qi19 : (7 < (a2.size : Int)) = True := eq_true (of_decide_eq_true (by first | (with_reducible assumption) | assumption)); replace q19 := eq_true q19; have p21 : 0 ≤ (0 : Int) := (by omega); have q21 : 0 < a2.size := (by have : (0 : Int) < (a2.size : Int) := of_decide_eq_true (by first | (with_reducible assumption) | assumption); omega); have hx21 : ∀ h : 0 < a2.size, ((a2[0]'h).toNat : Int) = bt a2 0 := bt_at a2 0; clear p21; have qi21 : (0 < (a2.size : Int)) = True := eq_true (of_decide_eq_true (by first | (with_reducible assumption) | assumption)); replace q21 := eq_true q21; have p23 : 0 ≤ (1 : Int) := (by omega); have q23 : 1 < a2.size := (by have : (1 : Int) < (a2.size : Int) := of_decide_eq_true (by first | (with_reducible assumption) | assumption); omega); have hx23 : ∀ h : 1 < a2.size, ((a2[1]'h).toNat : Int) = bt a2 1 := bt_at a2 1; clear p23; have qi23 : (1 < (a2.size : Int)) = True := eq_true (of_decide_eq_true (by first | (with_reducible assumption) | assumption)); replace q23 := eq_true q23; have p25 : 0 ≤ (2 : Int) := (by omega); have q25 : 2 < a2.size := (by have : (2 : Int) < (a2.size : Int) := of_decide_eq_true (by first | (with_reducible assumption) | assumption); omega); have hx25 : ∀ h : 2 < a2.size, ((a2[2]'h).toNat : Int) = bt a2 2 := bt_at a2 2; clear p25; have qi25 : (2 < (a2.size : Int)) = True := eq_true (of_decide_eq_true (by first | (with_reducible assumption) | assumption)); replace q25 := eq_true q25; have p27 : 0 ≤ (3 : Int) := (by omega); have q27 : 3 < a2.size := (by have : (3 : Int) < (a2.size : Int) := of_decide_eq_true (by first | (with_reducible assumption) | assumption); omega); have hx27 : ∀ h : 3 < a2.size, ((a2[3]'h).toNat : Int) = bt a2 3 := bt_at a2 3; clear p27; have qi27 : (3 < (a2.size : Int)) = True := eq_true (of_decide_eq_true (by first | (with_reducible assumption) | assumption)); replace q27 := eq_true q27; have p29 : 0 ≤ (4 : Int) := (by omega); have q29 : 4 < a2.size := (by have : (4 : Int) < (a2.size : Int) := of_decide_eq_true (by first | (with_reducible assumption) | assumption); omega); have hx29 : ∀ h : 4 < a2.size, ((a2[4]'h).toNat : Int) = bt a2 4 := bt_at a2 4; clear p29; have qi29 : (4 < (a2.size : Int)) = True := eq_true (of_decide_eq_true (by first | (with_reducible assumption) | assumption)); replace q29 := eq_true q29; have p31 : 0 ≤ (5 : Int) := (by omega); have q31 : 5 < a2.size := (by have : (5 : Int) < (a2.size : Int) := of_decide_eq_true (by first | (with_reducible assumption) | assumption); omega); have hx31 : ∀ h : 5 < a2.size, ((a2[5]'h).toNat : Int) = bt a2 5 := bt_at a2 5; clear p31; have qi31 : (5 < (a2.size : Int)) = True := eq_true (of_decide_eq_true (by first | (with_reducible assumption) | assumption)); replace q31 := eq_true q31) | (go_at_call 18; (with_reducible refine (when_Days.calls ((((1000 * (((bt a2 0) - 48) % 256)) + (100 * (((bt a2 1) - 48) % 256))) + (10 * (((bt a2 2) - 48) % 256))) + (((bt a2 3) - 48) % 256)) ((10 * (((bt a2 4) - 48) % 256)) + (((bt a2 5) - 48) % 256)) t212 _ A33.out).mono ?_); rintro e w' ⟨rfl, ⟨nd, rfl⟩⟩; (try first | exact ⟨rfl, _, World.drewN_drewN _ _ _⟩ | exact ⟨rfl, _, Eq.trans (World.drewN_drewN _ _ _) (congrArg (World.drewN _) (Nat.add_assoc _ _ _))⟩))))
                                go_ret
                                exact ⟨by first | rfl | (simp [errW_none, errW_some] <;> rfl) | (simp [*, errW_none, errW_some] <;> rfl), by repeat (first | (with_reducible first | exact HB.out | apply below_alloc | apply pw_below_drewN | apply below_drew1) | exact HB.out)⟩
                              · rw [if_neg c32] at H
                                exact absurd H (by simp)
                            · rw [if_neg c30] at H
                              exact absurd H (by simp)
                          · rw [if_neg c28] at H
                            exact absurd H (by simp)
                        · rw [if_neg c26] at H
                          exact absurd H (by simp)
                      · rw [if_neg c24] at H
                        exact absurd H (by simp)
                    · rw [if_neg c22] at H
                      exact absurd H (by simp)
                  · rw [if_neg c20] at H
                    exact absurd H (by simp)
                · rw [if_neg c18] at H
                  exact absurd H (by simp)
              · rw [if_neg c16] at H
                exact absurd H (by simp)
            · rw [if_neg c15] at H
              exact absurd H (by simp)
          · replace c14 := Bool.eq_false_iff.mpr c14
            subst c14
            have H1 : (some true) = some r := by rw [if_neg (show ¬ (false = true) by decide)] at H; exact H
            clear H
            have H := H1
            clear H1
            obtain rfl := Option.some.inj H
            go_wp2_with (first | (go_at_call 13; (with_reducible refine (when_Put.calls kj3 a2 t209 t210 false _ A13.out).mono ?_); rintro e w35 ⟨rfl, hb⟩; have n0_ := Aside0.mk (below_step (by repeat (first | (with_reducible first | exact HB.out | apply below_alloc | apply pw_below_drewN | apply below_drew1) | exact HB.out)) hb); clear HB; have HB := n0_; clear n0_; (try clear hb); (try clear hb2); (try clear hk); (try clear hi)))
            repeat (go_quiet (first | (go_at_call 13; (with_reducible refine (when_Put.calls kj3 a2 t209 t210 false _ A13.out).mono ?_); rintro e w35 ⟨rfl, hb⟩; have n0_ := Aside0.mk (below_step (by repeat (first | (with_reducible first | exact HB.out | apply below_alloc | apply pw_below_drewN | apply below_drew1) | exact HB.out)) hb); clear HB; have HB := n0_; clear n0_; (try clear hb); (try clear hb2); (try clear hk); (try clear hi))); try go_wp2_with (first | (go_at_call 13; (with_reducible refine (when_Put.calls kj3 a2 t209 t210 false _ A13.out).mono ?_); rintro e w35 ⟨rfl, hb⟩; have n0_ := Aside0.mk (below_step (by repeat (first | (with_reducible first | exact HB.out | apply below_alloc | apply pw_below_drewN | apply below_drew1) | exact HB.out)) hb); clear HB; have HB := n0_; clear n0_; (try clear hb); (try clear hb2); (try clear hk); (try clear hi))))
            go_ret
            exact ⟨by first | rfl | (simp [errW_none, errW_some] <;> rfl) | (simp [*, errW_none, errW_some] <;> rfl), by repeat (first | (with_reducible first | exact HB.out | apply below_alloc | apply pw_below_drewN | apply below_drew1) | exact HB.out)⟩

/-- THE ONE PURE STATEMENT of gantletlaw13_WhenDays: yours. -/
def gantletlaw13_WhenDays.Pure : Prop := ∀ (a0 : Int) (a1 : Int) (a2 : ByteArray), (Lit.int .i64 a0).wf = true → (Lit.int .i64 a1).wf = true → a2.size ≤ 140737488351232 → ∃ k, gantletlaw13_WhenDays.f k a0 a1 a2 = some true
theorem gantletlaw13_WhenDays.walk (P : gantletlaw13_WhenDays.Pure) (a0 : Int) (a1 : Int) (a2 : ByteArray) (w : World) (w0 : (Lit.int .i64 a0).wf = true) (w1 : (Lit.int .i64 a1).wf = true) (w2 : a2.size ≤ 140737488351232) :
    Calls Try.prog 7 #[.int .i64 a0, .int .i64 a1, .string a2] w fun e w' => e = .returned (.bool true) ∧ Below w.heap.size w w' := by
  obtain ⟨k, h⟩ := P a0 a1 a2 w0 w1 w2
  refine (gantletlaw13_WhenDays.calls k a0 a1 a2 true w h).mono ?_
  rintro e w' ⟨rfl, hd⟩
  exact ⟨rfl, hd⟩

/-! ### gantletlaw13_WhenOrder: function 8 -/
mutual
def gantletlaw13_WhenOrder.j0 : Nat → ByteArray → ByteArray → Bool → Option (Bool)
  | 0, _, _, _ => none
  | k + 1, x0, x1, x26 => if x26 = true then ((gantletlaw13_awake.f k).bind fun t214 => (some t214)) else ((when_Put.f k x0).bind fun bt215 => ((when_Put.f k x1).bind fun bt218 => (if bt215.2.2 = true then (gantletlaw13_WhenOrder.j1 k x0 x1 bt215.1 bt215.2.1 bt218.1 bt218.2.1 (!bt218.2.2)) else (gantletlaw13_WhenOrder.j1 k x0 x1 bt215.1 bt215.2.1 bt218.1 bt218.2.1 true))))
def gantletlaw13_WhenOrder.j1 : Nat → ByteArray → ByteArray → Int → ByteArray → Int → ByteArray → Bool → Option (Bool)
  | 0, _, _, _, _, _, _, _ => none
  | k + 1, x0, x1, x5, x6, x8, x9, x45 => if x45 = true then (some true) else (if x5 = x8 then ((when_Get.f k x5 x6).bind fun bt221 => ((when_Get.f k x8 x9).bind fun bt223 => (if ((Op.bytesLess bt221.1.toList bt223.1.toList) == (Op.bytesLess x0.toList x1.toList)) = true then (if x5 = 23 then (some ((x0.toList == x1.toList) == (x6.toList == x9.toList))) else (if ((Op.bytesLess x6.toList x9.toList) == (Op.bytesLess x0.toList x1.toList)) = true then (some ((x0.toList == x1.toList) == (x6.toList == x9.toList))) else (none))) else (none)))) else (some ((Op.bytesLess x0.toList x1.toList) == (x5 == 23))))
end
def gantletlaw13_WhenOrder.f (k : Nat) (a0 : ByteArray) (a1 : ByteArray) : Option (Bool) := (gantletlaw13_awake.f k).bind fun t213 => (if t213 = true then (if (a0.size : Int) > 100 then (gantletlaw13_WhenOrder.j0 k a0 a1 true) else (gantletlaw13_WhenOrder.j0 k a0 a1 (decide ((a1.size : Int) > 100)))) else (gantletlaw13_WhenOrder.j0 k a0 a1 true))
theorem gantletlaw13_WhenOrder.mono_l : ∀ k, (∀ y0 y1 y2, LeO (gantletlaw13_WhenOrder.j0 k y0 y1 y2) (gantletlaw13_WhenOrder.j0 (k + 1) y0 y1 y2)) ∧ (∀ y0 y1 y2 y3 y4 y5 y6, LeO (gantletlaw13_WhenOrder.j1 k y0 y1 y2 y3 y4 y5 y6) (gantletlaw13_WhenOrder.j1 (k + 1) y0 y1 y2 y3 y4 y5 y6))
  | 0 => ⟨fun _ _ _ r h => by simp [gantletlaw13_WhenOrder.j0] at h, fun _ _ _ _ _ _ _ r h => by simp [gantletlaw13_WhenOrder.j1] at h⟩
  | k + 1 => by
    obtain ⟨ih0, ih1⟩ := gantletlaw13_WhenOrder.mono_l k
    refine ⟨?_, ?_⟩
    · intro y0 y1 y2
      unfold gantletlaw13_WhenOrder.j0
      repeat' first
      | (with_reducible exact ih0 _ _ _)
      | (with_reducible exact ih1 _ _ _ _ _ _ _)
      | (with_reducible exact gantletlaw13_awake.mono _)
      | (with_reducible exact when_Get.mono _ _ _)
      | (with_reducible exact when_Put.mono _ _)
      | (with_reducible exact LeO.refl _)
      | (with_reducible exact LeO.none _)
      | (with_reducible refine LeO.ite ?_ ?_)
      | (with_reducible refine LeO.bind ?_ (fun _ => ?_))
      | exact ih0 _ _ _
      | exact ih1 _ _ _ _ _ _ _
      | exact gantletlaw13_awake.mono _
      | exact when_Get.mono _ _ _
      | exact when_Put.mono _ _
      | exact LeO.none _
      | refine LeO.ite ?_ ?_
      | refine LeO.bind ?_ (fun _ => ?_)
    · intro y0 y1 y2 y3 y4 y5 y6
      unfold gantletlaw13_WhenOrder.j1
      repeat' first
      | (with_reducible exact ih0 _ _ _)
      | (with_reducible exact ih1 _ _ _ _ _ _ _)
      | (with_reducible exact gantletlaw13_awake.mono _)
      | (with_reducible exact when_Get.mono _ _ _)
      | (with_reducible exact when_Put.mono _ _)
      | (with_reducible exact LeO.refl _)
      | (with_reducible exact LeO.none _)
      | (with_reducible refine LeO.ite ?_ ?_)
      | (with_reducible refine LeO.bind ?_ (fun _ => ?_))
      | exact ih0 _ _ _
      | exact ih1 _ _ _ _ _ _ _
      | exact gantletlaw13_awake.mono _
      | exact when_Get.mono _ _ _
      | exact when_Put.mono _ _
      | exact LeO.none _
      | refine LeO.ite ?_ ?_
      | refine LeO.bind ?_ (fun _ => ?_)
theorem gantletlaw13_WhenOrder.mono : ∀ a0 a1 k, LeO (gantletlaw13_WhenOrder.f k a0 a1) (gantletlaw13_WhenOrder.f (k + 1) a0 a1) := by
  intro a0 a1 k
  obtain ⟨ih0, ih1⟩ := gantletlaw13_WhenOrder.mono_l k
  unfold gantletlaw13_WhenOrder.f
  repeat' first
      | (with_reducible exact ih0 _ _ _)
      | (with_reducible exact ih1 _ _ _ _ _ _ _)
      | (with_reducible exact gantletlaw13_awake.mono _)
      | (with_reducible exact when_Get.mono _ _ _)
      | (with_reducible exact when_Put.mono _ _)
      | (with_reducible exact LeO.refl _)
      | (with_reducible exact LeO.none _)
      | (with_reducible refine LeO.ite ?_ ?_)
      | (with_reducible refine LeO.bind ?_ (fun _ => ?_))
      | exact ih0 _ _ _
      | exact ih1 _ _ _ _ _ _ _
      | exact gantletlaw13_awake.mono _
      | exact when_Get.mono _ _ _
      | exact when_Put.mono _ _
      | exact LeO.none _
      | refine LeO.ite ?_ ?_
      | refine LeO.bind ?_ (fun _ => ?_)
set_option maxHeartbeats 8000000 in
set_option maxRecDepth 100000 in
theorem gantletlaw13_WhenOrder.calls (k : Nat) (a0 : ByteArray) (a1 : ByteArray) (r : Bool) (w : World) (h : gantletlaw13_WhenOrder.f k a0 a1 = some r) :
    Calls Try.prog 8 #[.string a0, .string a1] w fun e w' => e = .returned (.bool r) ∧ Below w.heap.size w w' := by
  have HB := Aside0.mk (Below.refl w.heap.size w)
  have H : ((gantletlaw13_awake.f k).bind fun t213 => (if t213 = true then (if (a0.size : Int) > 100 then (gantletlaw13_WhenOrder.j0 k a0 a1 true) else (gantletlaw13_WhenOrder.j0 k a0 a1 (decide ((a1.size : Int) > 100)))) else (gantletlaw13_WhenOrder.j0 k a0 a1 true))) = some r := h
  clear h
  have HC3 := Aside0.mk H
  clear H
  go_enter Try.func8, Try.ntmps8
  go_upto_region 1 with (fail)
  go_cut [26] (fun v26 wc => ∃ (kq : Nat) (x26_2 : Bool), v26 = .bool x26_2 ∧ Aside0 (gantletlaw13_WhenOrder.j0 kq a0 a1 x26_2 = some r) ∧ Aside0 (kq ≤ k) ∧ Aside0 (Below w.heap.size w wc))
  case first =>
    have H := HC3.out
    clear HC3
    replace H := Option.bind_eq_some_iff.mp H
    obtain ⟨t213, A40, H⟩ := H
    replace H : (if t213 = true then (if (a0.size : Int) > 100 then (gantletlaw13_WhenOrder.j0 k a0 a1 true) else (gantletlaw13_WhenOrder.j0 k a0 a1 (decide ((a1.size : Int) > 100)))) else (gantletlaw13_WhenOrder.j0 k a0 a1 true)) = some r := H
    have A4 := Aside0.mk A40
    clear A40
    by_cases c5 : t213 = true
    · subst c5
      have H1 : (if (a0.size : Int) > 100 then (gantletlaw13_WhenOrder.j0 k a0 a1 true) else (gantletlaw13_WhenOrder.j0 k a0 a1 (decide ((a1.size : Int) > 100)))) = some r := by rw [if_pos rfl] at H; exact H
      clear H
      have H := H1
      clear H1
      by_cases c6 : (a0.size : Int) > 100
      · rw [if_pos c6] at H
        have c6b0 : decide (100 < (a0.size : Int)) = true := decide_eq_true c6
        have c6b1 : decide (100 < a0.size) = true := decide_eq_true (by omega)
        clear c6
        (first | rw [c6b0] | (simp only [i64_w, i32_w]; rw [c6b0]) | skip)
        have H' := Aside0.mk H
        clear H
        go_wp2_with (first | ((with_reducible refine gate_callee (f := 9) rfl ?_); refine goesL_ (some 15) rfl rfl Try.func9 (by kernel_rfl) rfl #[] rfl (by (try simp only [List.map_toArray, List.map_cons, List.map_nil]); first | done | rfl | (simp only [List.length_drop, List.length_take]; rfl)) ?_; (with_reducible refine (gantletlaw13_awake.calls k  true _ A4.out).mono ?_); rintro e w7 ⟨rfl, hb⟩; refine ⟨_, rfl, ?_⟩; have n0_ := Aside0.mk (below_step (by repeat (first | (with_reducible first | exact HB.out | apply below_alloc | apply pw_below_drewN | apply below_drew1) | exact HB.out)) hb); clear HB; have HB := n0_; clear n0_; (try clear hb); (try clear hb2); (try clear hk); (try clear hi)))
        go_meet
        case rel => exact ⟨_, (true), (by first | rfl | (simp; done) | (simp [*]; done)), H', ⟨by first | omega | exact Nat.le_refl _⟩, ⟨by repeat (first | (with_reducible first | exact HB.out | apply below_alloc | apply pw_below_drewN | apply below_drew1) | exact HB.out)⟩⟩
      · rw [if_neg c6] at H
        have c6b0 : decide (100 < (a0.size : Int)) = false := decide_eq_false c6
        have c6b1 : decide (100 < a0.size) = false := decide_eq_false (by omega)
        clear c6
        (first | rw [c6b0] | (simp only [i64_w, i32_w]; rw [c6b0]) | skip)
        have H' := Aside0.mk H
        clear H
        go_wp2_with (first | ((with_reducible refine gate_callee (f := 9) rfl ?_); refine goesL_ (some 15) rfl rfl Try.func9 (by kernel_rfl) rfl #[] rfl (by (try simp only [List.map_toArray, List.map_cons, List.map_nil]); first | done | rfl | (simp only [List.length_drop, List.length_take]; rfl)) ?_; (with_reducible refine (gantletlaw13_awake.calls k  true _ A4.out).mono ?_); rintro e w8 ⟨rfl, hb⟩; refine ⟨_, rfl, ?_⟩; have n0_ := Aside0.mk (below_step (by repeat (first | (with_reducible first | exact HB.out | apply below_alloc | apply pw_below_drewN | apply below_drew1) | exact HB.out)) hb); clear HB; have HB := n0_; clear n0_; (try clear hb); (try clear hb2); (try clear hk); (try clear hi)))
        go_meet
        case rel => exact ⟨_, (decide ((a1.size : Int) > 100)), (by first | rfl | (simp; done) | (simp [*]; done)), H', ⟨by first | omega | exact Nat.le_refl _⟩, ⟨by repeat (first | (with_reducible first | exact HB.out | apply below_alloc | apply pw_below_drewN | apply below_drew1) | exact HB.out)⟩⟩
    · replace c5 := Bool.eq_false_iff.mpr c5
      subst c5
      have H1 : (gantletlaw13_WhenOrder.j0 k a0 a1 true) = some r := by rw [if_neg (show ¬ (false = true) by decide)] at H; exact H
      clear H
      have H := H1
      clear H1
      have H' := Aside0.mk H
      clear H
      go_wp2_with (first | ((with_reducible refine gate_callee (f := 9) rfl ?_); refine goesL_ (some 15) rfl rfl Try.func9 (by kernel_rfl) rfl #[] rfl (by (try simp only [List.map_toArray, List.map_cons, List.map_nil]); first | done | rfl | (simp only [List.length_drop, List.length_take]; rfl)) ?_; (with_reducible refine (gantletlaw13_awake.calls k  false _ A4.out).mono ?_); rintro e w9 ⟨rfl, hb⟩; refine ⟨_, rfl, ?_⟩; have n0_ := Aside0.mk (below_step (by repeat (first | (with_reducible first | exact HB.out | apply below_alloc | apply pw_below_drewN | apply below_drew1) | exact HB.out)) hb); clear HB; have HB := n0_; clear n0_; (try clear hb); (try clear hb2); (try clear hk); (try clear hi)))
      go_meet
      case rel => exact ⟨_, (true), (by first | rfl | (simp; done) | (simp [*]; done)), H', ⟨by first | omega | exact Nat.le_refl _⟩, ⟨by repeat (first | (with_reducible first | exact HB.out | apply below_alloc | apply pw_below_drewN | apply below_drew1) | exact HB.out)⟩⟩
  case rest =>
    clear HC3
    try clear p2
    try clear c5
    try clear c6
    try clear c6b0
    try clear c6b1
    try clear c8
    try clear c9
    obtain ⟨kq, x26_2, rfl, HA, HJ2, HB⟩ := hcut
    cases kq with
    | zero => exact absurd HA.out (by simp [gantletlaw13_WhenOrder.j0])
    | succ kj2 =>
      have H := HA.out
      clear HA
      simp only [gantletlaw13_WhenOrder.j0] at H
      by_cases c10 : x26_2 = true
      · subst c10
        have H1 : ((gantletlaw13_awake.f kj2).bind fun t214 => (some t214)) = some r := by rw [if_pos rfl] at H; exact H
        clear H
        have H := H1
        clear H1
        replace H := Option.bind_eq_some_iff.mp H
        obtain ⟨t214, A110, H⟩ := H
        replace H : (some t214) = some r := H
        have A11 := Aside0.mk A110
        clear A110
        obtain rfl := Option.some.inj H
        go_wp2_with (first | ((with_reducible refine gate_callee (f := 9) rfl ?_); refine goesL_ (some 27) rfl rfl Try.func9 (by kernel_rfl) rfl #[] rfl (by (try simp only [List.map_toArray, List.map_cons, List.map_nil]); first | done | rfl | (simp only [List.length_drop, List.length_take]; rfl)) ?_; (with_reducible refine (gantletlaw13_awake.calls kj2  t214 _ A11.out).mono ?_); rintro e w12 ⟨rfl, hb⟩; refine ⟨_, rfl, ?_⟩; have n0_ := Aside0.mk (below_step (by repeat (first | (with_reducible first | exact HB.out | apply below_alloc | apply pw_below_drewN | apply below_drew1) | exact HB.out)) hb); clear HB; have HB := n0_; clear n0_; (try clear hb); (try clear hb2); (try clear hk); (try clear hi)))
        go_ret
        exact ⟨by first | rfl | (simp [errW_none, errW_some] <;> rfl) | (simp [*, errW_none, errW_some] <;> rfl), by repeat (first | (with_reducible first | exact HB.out | apply below_alloc | apply pw_below_drewN | apply below_drew1) | exact HB.out)⟩
      · replace c10 := Bool.eq_false_iff.mpr c10
        subst c10
        have H1 : ((when_Put.f kj2 a0).bind fun bt215 => ((when_Put.f kj2 a1).bind fun bt218 => (if bt215.2.2 = true then (gantletlaw13_WhenOrder.j1 kj2 a0 a1 bt215.1 bt215.2.1 bt218.1 bt218.2.1 (!bt218.2.2)) else (gantletlaw13_WhenOrder.j1 kj2 a0 a1 bt215.1 bt215.2.1 bt218.1 bt218.2.1 true)))) = some r := by rw [if_neg (show ¬ (false = true) by decide)] at H; exact H
        clear H
        have H := H1
        clear H1
        replace H := Option.bind_eq_some_iff.mp H
        obtain ⟨⟨t215, t216, t217⟩, A130, H⟩ := H
        replace H : ((when_Put.f kj2 a1).bind fun bt218 => (if t217 = true then (gantletlaw13_WhenOrder.j1 kj2 a0 a1 t215 t216 bt218.1 bt218.2.1 (!bt218.2.2)) else (gantletlaw13_WhenOrder.j1 kj2 a0 a1 t215 t216 bt218.1 bt218.2.1 true))) = some r := H
        have A13 := Aside0.mk A130
        clear A130
        replace H := Option.bind_eq_some_iff.mp H
        obtain ⟨⟨t218, t219, t220⟩, A140, H⟩ := H
        replace H : (if t217 = true then (gantletlaw13_WhenOrder.j1 kj2 a0 a1 t215 t216 t218 t219 (!t220)) else (gantletlaw13_WhenOrder.j1 kj2 a0 a1 t215 t216 t218 t219 true)) = some r := H
        have A14 := Aside0.mk A140
        clear A140
        have HC15 := Aside0.mk H
        clear H
        go_upto_region 5 with (first | ((with_reducible refine gate_callee (f := 13) rfl ?_); refine goesL_ (some 30) rfl rfl Try.func13 (by kernel_rfl) rfl #[.string a0] rfl (by (try simp only [List.map_toArray, List.map_cons, List.map_nil]); first | done | rfl | (simp only [List.length_drop, List.length_take]; rfl)) ?_; (with_reducible refine (when_Put.calls kj2 a0 t215 t216 t217 _ A13.out).mono ?_); rintro e w16 ⟨rfl, hb⟩; refine ⟨_, rfl, ?_⟩; have n0_ := Aside0.mk (below_step (by repeat (first | (with_reducible first | exact HB.out | apply below_alloc | apply pw_below_drewN | apply below_drew1) | exact HB.out)) hb); clear HB; have HB := n0_; clear n0_; (try clear hb); (try clear hb2); (try clear hk); (try clear hi)) | ((with_reducible refine gate_callee (f := 13) rfl ?_); refine goesL_ (some 36) rfl rfl Try.func13 (by kernel_rfl) rfl #[.string a1] rfl (by (try simp only [List.map_toArray, List.map_cons, List.map_nil]); first | done | rfl | (simp only [List.length_drop, List.length_take]; rfl)) ?_; (with_reducible refine (when_Put.calls kj2 a1 t218 t219 t220 _ A14.out).mono ?_); rintro e w17 ⟨rfl, hb⟩; refine ⟨_, rfl, ?_⟩; have n0_ := Aside0.mk (below_step (by repeat (first | (with_reducible first | exact HB.out | apply below_alloc | apply pw_below_drewN | apply below_drew1) | exact HB.out)) hb); clear HB; have HB := n0_; clear n0_; (try clear hb); (try clear hb2); (try clear hk); (try clear hi)))
        (try simp only [Act.put, List.setIfInBounds_toArray, List.set_cons_zero, List.set_cons_succ])
        go_cut [45] (fun v45 wc => ∃ (kq : Nat) (x45_14 : Bool), v45 = .bool x45_14 ∧ Aside0 (gantletlaw13_WhenOrder.j1 kq a0 a1 t215 t216 t218 t219 x45_14 = some r) ∧ Aside0 (kq ≤ kj2) ∧ Aside0 (Below w.heap.size w wc))
        case first =>
          have H := HC15.out
          clear HC15
          by_cases c18 : t217 = true
          · subst c18
            have H1 : (gantletlaw13_WhenOrder.j1 kj2 a0 a1 t215 t216 t218 t219 (!t220)) = some r := by rw [if_pos rfl] at H; exact H
            clear H
            have H := H1
            clear H1
            have H' := Aside0.mk H
            clear H
            go_wp2
            go_meet
            case rel => exact ⟨_, (!t220), (by first | rfl | (simp; done) | (simp [*]; done)), H', ⟨by have := HJ2.out; first | omega | exact Nat.le_refl _⟩, ⟨by repeat (first | (with_reducible first | exact HB.out | apply below_alloc | apply pw_below_drewN | apply below_drew1) | exact HB.out)⟩⟩
          · replace c18 := Bool.eq_false_iff.mpr c18
            subst c18
            have H1 : (gantletlaw13_WhenOrder.j1 kj2 a0 a1 t215 t216 t218 t219 true) = some r := by rw [if_neg (show ¬ (false = true) by decide)] at H; exact H
            clear H
            have H := H1
            clear H1
            have H' := Aside0.mk H
            clear H
            go_wp2
            go_meet
            case rel => exact ⟨_, (true), (by first | rfl | (simp; done) | (simp [*]; done)), H', ⟨by have := HJ2.out; first | omega | exact Nat.le_refl _⟩, ⟨by repeat (first | (with_reducible first | exact HB.out | apply below_alloc | apply pw_below_drewN | apply below_drew1) | exact HB.out)⟩⟩
        case rest =>
          clear HC15
          try clear c1
          try clear p2
          try clear c5
          try clear c6
          try clear c6b0
          try clear c6b1
          try clear c8
          try clear c9
          try clear c10
          try clear c13
          try clear c18
          try clear p2
          obtain ⟨kq, x45_14, rfl, HA, HJ14, HB⟩ := hcut
          cases kq with
          | zero => exact absurd HA.out (by simp [gantletlaw13_WhenOrder.j1])
          | succ kj14 =>
            have H := HA.out
            clear HA
            simp only [gantletlaw13_WhenOrder.j1] at H
            by_cases c19 : x45_14 = true
            · subst c19
              have H1 : (some true) = some r := by rw [if_pos rfl] at H; exact H
              clear H
              have H := H1
              clear H1
              obtain rfl := Option.some.inj H
              go_wp2
              go_ret
              exact ⟨by first | rfl | (simp [errW_none, errW_some] <;> rfl) | (simp [*, errW_none, errW_some] <;> rfl), by repeat (first | (with_reducible first | exact HB.out | apply below_alloc | apply pw_below_drewN | apply below_drew1) | exact HB.out)⟩
            · replace c19 := Bool.eq_false_iff.mpr c19
              subst c19
              have H1 : (if t215 = t218 then ((when_Get.f kj14 t215 t216).bind fun bt221 => ((when_Get.f kj14 t218 t219).bind fun bt223 => (if ((Op.bytesLess bt221.1.toList bt223.1.toList) == (Op.bytesLess a0.toList a1.toList)) = true then (if t215 = 23 then (some ((a0.toList == a1.toList) == (t216.toList == t219.toList))) else (if ((Op.bytesLess t216.toList t219.toList) == (Op.bytesLess a0.toList a1.toList)) = true then (some ((a0.toList == a1.toList) == (t216.toList == t219.toList))) else (none))) else (none)))) else (some ((Op.bytesLess a0.toList a1.toList) == (t215 == 23)))) = some r := by rw [if_neg (show ¬ (false = true) by decide)] at H; exact H
              clear H
              have H := H1
              clear H1
              by_cases c20 : t215 = t218
              · rw [if_pos c20] at H
                have c20b0 : (t215 == t218) = true := beq_iff_eq.mpr c20
                have c20b1 : (t215 != t218) = false := bne_eq_false_iff_eq.mpr c20
                clear c20
                replace H := Option.bind_eq_some_iff.mp H
                obtain ⟨⟨t221, t222⟩, A210, H⟩ := H
                replace H : ((when_Get.f kj14 t218 t219).bind fun bt223 => (if ((Op.bytesLess t221.toList bt223.1.toList) == (Op.bytesLess a0.toList a1.toList)) = true then (if t215 = 23 then (some ((a0.toList == a1.toList) == (t216.toList == t219.toList))) else (if ((Op.bytesLess t216.toList t219.toList) == (Op.bytesLess a0.toList a1.toList)) = true then (some ((a0.toList == a1.toList) == (t216.toList == t219.toList))) else (none))) else (none))) = some r := H
                have A21 := Aside0.mk A210
                clear A210
                replace H := Option.bind_eq_some_iff.mp H
                obtain ⟨⟨t223, t224⟩, A220, H⟩ := H
                replace H : (if ((Op.bytesLess t221.toList t223.toList) == (Op.bytesLess a0.toList a1.toList)) = true then (if t215 = 23 then (some ((a0.toList == a1.toList) == (t216.toList == t219.toList))) else (if ((Op.bytesLess t216.toList t219.toList) == (Op.bytesLess a0.toList a1.toList)) = true then (some ((a0.toList == a1.toList) == (t216.toList == t219.toList))) else (none))) else (none)) = some r := H
                have A22 := Aside0.mk A220
                clear A220
                by_cases c23 : ((Op.bytesLess t221.toList t223.toList) == (Op.bytesLess a0.toList a1.toList)) = true
                · rw [if_pos c23] at H
                  have c23b0 : ((Op.bytesLess t221.toList t223.toList) == (Op.bytesLess a0.toList a1.toList)) = true := c23
                  (try (have c23b1 : decide ((Op.bytesLess t221.toList t223.toList) = (Op.bytesLess a0.toList a1.toList)) = true := by simpa using c23))
                  (try (have c23b2 : ((Op.bytesLess t221.toList t223.toList) == (Op.bytesLess a0.toList a1.toList)) = true := by simpa using c23))
                  clear c23
                  by_cases c24 : t215 = 23
                  · rw [if_pos c24] at H
                    have c24b0 : (t215 == 23) = true := beq_iff_eq.mpr c24
                    have c24b1 : (t215 != 23) = false := bne_eq_false_iff_eq.mpr c24
                    clear c24
                    obtain rfl := Option.some.inj H
                    go_wp2_with (first | ((with_reducible refine gate_callee (f := 14) rfl ?_); refine goesL_ (some 58) rfl rfl Try.func14 (by kernel_rfl) rfl #[.int .i64 t215, .string t216] rfl (by (try simp only [List.map_toArray, List.map_cons, List.map_nil]); first | done | rfl | (simp only [List.length_drop, List.length_take]; rfl)) ?_; (with_reducible refine (when_Get.calls kj14 t215 t216 t221 t222 _ A21.out).mono ?_); rintro e w25 ⟨rfl, hb⟩; refine ⟨_, rfl, ?_⟩; have n0_ := Aside0.mk (below_step (by repeat (first | (with_reducible first | exact HB.out | apply below_alloc | apply pw_below_drewN | apply below_drew1) | exact HB.out)) hb); clear HB; have HB := n0_; clear n0_; (try clear hb); (try clear hb2); (try clear hk); (try clear hi)) | ((with_reducible refine gate_callee (f := 14) rfl ?_); refine goesL_ (some 64) rfl rfl Try.func14 (by kernel_rfl) rfl #[.int .i64 t218, .string t219] rfl (by (try simp only [List.map_toArray, List.map_cons, List.map_nil]); first | done | rfl | (simp only [List.length_drop, List.length_take]; rfl)) ?_; (with_reducible refine (when_Get.calls kj14 t218 t219 t223 t224 _ A22.out).mono ?_); rintro e w26 ⟨rfl, hb⟩; refine ⟨_, rfl, ?_⟩; have n0_ := Aside0.mk (below_step (by repeat (first | (with_reducible first | exact HB.out | apply below_alloc | apply pw_below_drewN | apply below_drew1) | exact HB.out)) hb); clear HB; have HB := n0_; clear n0_; (try clear hb); (try clear hb2); (try clear hk); (try clear hi)))
                    go_ret
                    exact ⟨by first | rfl | (simp [errW_none, errW_some] <;> rfl) | (simp [*, errW_none, errW_some] <;> rfl), by repeat (first | (with_reducible first | exact HB.out | apply below_alloc | apply pw_below_drewN | apply below_drew1) | exact HB.out)⟩
                  · rw [if_neg c24] at H
                    have c24b0 : (t215 == 23) = false := beq_eq_false_iff_ne.mpr c24
                    have c24b1 : (t215 != 23) = true := bne_iff_ne.mpr c24
                    by_cases c27 : ((Op.bytesLess t216.toList t219.toList) == (Op.bytesLess a0.toList a1.toList)) = true
                    · rw [if_pos c27] at H
                      have c27b0 : ((Op.bytesLess t216.toList t219.toList) == (Op.bytesLess a0.toList a1.toList)) = true := c27
                      (try (have c27b1 : decide ((Op.bytesLess t216.toList t219.toList) = (Op.bytesLess a0.toList a1.toList)) = true := by simpa using c27))
                      (try (have c27b2 : ((Op.bytesLess t216.toList t219.toList) == (Op.bytesLess a0.toList a1.toList)) = true := by simpa using c27))
                      clear c27
                      obtain rfl := Option.some.inj H
                      go_wp2_with (first | ((with_reducible refine gate_callee (f := 14) rfl ?_); refine goesL_ (some 58) rfl rfl Try.func14 (by kernel_rfl) rfl #[.int .i64 t215, .string t216] rfl (by (try simp only [List.map_toArray, List.map_cons, List.map_nil]); first | done | rfl | (simp only [List.length_drop, List.length_take]; rfl)) ?_; (with_reducible refine (when_Get.calls kj14 t215 t216 t221 t222 _ A21.out).mono ?_); rintro e w28 ⟨rfl, hb⟩; refine ⟨_, rfl, ?_⟩; have n0_ := Aside0.mk (below_step (by repeat (first | (with_reducible first | exact HB.out | apply below_alloc | apply pw_below_drewN | apply below_drew1) | exact HB.out)) hb); clear HB; have HB := n0_; clear n0_; (try clear hb); (try clear hb2); (try clear hk); (try clear hi)) | ((with_reducible refine gate_callee (f := 14) rfl ?_); refine goesL_ (some 64) rfl rfl Try.func14 (by kernel_rfl) rfl #[.int .i64 t218, .string t219] rfl (by (try simp only [List.map_toArray, List.map_cons, List.map_nil]); first | done | rfl | (simp only [List.length_drop, List.length_take]; rfl)) ?_; (with_reducible refine (when_Get.calls kj14 t218 t219 t223 t224 _ A22.out).mono ?_); rintro e w29 ⟨rfl, hb⟩; refine ⟨_, rfl, ?_⟩; have n0_ := Aside0.mk (below_step (by repeat (first | (with_reducible first | exact HB.out | apply below_alloc | apply pw_below_drewN | apply below_drew1) | exact HB.out)) hb); clear HB; have HB := n0_; clear n0_; (try clear hb); (try clear hb2); (try clear hk); (try clear hi)))
                      go_ret
                      exact ⟨by first | rfl | (simp [errW_none, errW_some] <;> rfl) | (simp [*, errW_none, errW_some] <;> rfl), by repeat (first | (with_reducible first | exact HB.out | apply below_alloc | apply pw_below_drewN | apply below_drew1) | exact HB.out)⟩
                    · rw [if_neg c27] at H
                      exact absurd H (by simp)
                · rw [if_neg c23] at H
                  exact absurd H (by simp)
              · rw [if_neg c20] at H
                have c20b0 : (t215 == t218) = false := beq_eq_false_iff_ne.mpr c20
                have c20b1 : (t215 != t218) = true := bne_iff_ne.mpr c20
                obtain rfl := Option.some.inj H
                go_wp2
                go_ret
                exact ⟨by first | rfl | (simp [errW_none, errW_some] <;> rfl) | (simp [*, errW_none, errW_some] <;> rfl), by repeat (first | (with_reducible first | exact HB.out | apply below_alloc | apply pw_below_drewN | apply below_drew1) | exact HB.out)⟩

/-- THE ONE PURE STATEMENT of gantletlaw13_WhenOrder: yours. -/
def gantletlaw13_WhenOrder.Pure : Prop := ∀ (a0 : ByteArray) (a1 : ByteArray), a0.size ≤ 140737488351232 → a1.size ≤ 140737488351232 → ∃ k, gantletlaw13_WhenOrder.f k a0 a1 = some true
theorem gantletlaw13_WhenOrder.walk (P : gantletlaw13_WhenOrder.Pure) (a0 : ByteArray) (a1 : ByteArray) (w : World) (w0 : a0.size ≤ 140737488351232) (w1 : a1.size ≤ 140737488351232) :
    Calls Try.prog 8 #[.string a0, .string a1] w fun e w' => e = .returned (.bool true) ∧ Below w.heap.size w w' := by
  obtain ⟨k, h⟩ := P a0 a1 w0 w1
  refine (gantletlaw13_WhenOrder.calls k a0 a1 true w h).mono ?_
  rintro e w' ⟨rfl, hd⟩
  exact ⟨rfl, hd⟩

end Go.Proofs.Ytailnnjkbiihmaa.PA
