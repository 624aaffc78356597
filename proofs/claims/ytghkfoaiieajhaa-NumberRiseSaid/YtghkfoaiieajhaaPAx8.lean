-- Written by a program of this session (print2, a turned print): not PRINTED BY print.sh
import Derived.Test.YtghkfoaiieajhaaPAx0
import Derived.Test.YtghkfoaiieajhaaPAx3
import Derived.Test.YtghkfoaiieajhaaPAx4
namespace Go.Proofs.Ytghkfoaiieajhaa.PA
open Go.RowKit Go.Proofs.YtghkfoaiieajhaaW.PrintWords Go.Proofs.YtghkfoaiieajhaaW.PrintLast Go.Proofs.YtghkfoaiieajhaaW.PrintMore
attribute [local go_sem] max2_int min2_int max_two min_two max_three min_three max_four min_four   -- for this text's walks alone
set_option linter.unusedVariables false
set_option linter.unusedSimpArgs false

/-! ### gantletlaw10_NumberRise: function 8 -/
def gantletlaw10_NumberRise.j0 : Nat → Int → Int → Bool → Option (Bool)
  | 0, _, _, _ => none
  | k + 1, x0, x1, x17 => if x17 = true then ((gantletlaw10_awake.f k).bind fun t240 => (some t240)) else ((number_Put.f k x0).bind fun t241 => ((number_Put.f k x1).bind fun t242 => (if (t241.size : Int) ≤ (t242.size : Int) then (if (t241.size : Int) < (t242.size : Int) then (some ((x0 == x1) == (t241.toList == t242.toList))) else (if ((Op.bytesLess t242.toList t241.toList) = true) then (none) else (some ((x0 == x1) == (t241.toList == t242.toList))))) else (none))))
def gantletlaw10_NumberRise.f (k : Nat) (a0 : Int) (a1 : Int) : Option (Bool) := (gantletlaw10_awake.f k).bind fun t239 => (if t239 = true then (if a0 < 0 then (gantletlaw10_NumberRise.j0 k a0 a1 true) else (gantletlaw10_NumberRise.j0 k a0 a1 (decide (a1 < a0)))) else (gantletlaw10_NumberRise.j0 k a0 a1 true))
theorem gantletlaw10_NumberRise.mono_l : ∀ k, (∀ y0 y1 y2, LeO (gantletlaw10_NumberRise.j0 k y0 y1 y2) (gantletlaw10_NumberRise.j0 (k + 1) y0 y1 y2))
  | 0 => fun _ _ _ r h => by simp [gantletlaw10_NumberRise.j0] at h
  | k + 1 => by
    have ih0 := gantletlaw10_NumberRise.mono_l k
    · intro y0 y1 y2
      unfold gantletlaw10_NumberRise.j0
      repeat' first
      | (with_reducible exact ih0 _ _ _)
      | (with_reducible exact gantletlaw10_awake.mono _)
      | (with_reducible exact number_Put.mono _ _)
      | (with_reducible exact LeO.refl _)
      | (with_reducible exact LeO.none _)
      | (with_reducible refine LeO.ite ?_ ?_)
      | (with_reducible refine LeO.bind ?_ (fun _ => ?_))
      | exact ih0 _ _ _
      | exact gantletlaw10_awake.mono _
      | exact number_Put.mono _ _
      | exact LeO.none _
      | refine LeO.ite ?_ ?_
      | refine LeO.bind ?_ (fun _ => ?_)
theorem gantletlaw10_NumberRise.mono : ∀ a0 a1 k, LeO (gantletlaw10_NumberRise.f k a0 a1) (gantletlaw10_NumberRise.f (k + 1) a0 a1) := by
  intro a0 a1 k
  have ih0 := gantletlaw10_NumberRise.mono_l k
  unfold gantletlaw10_NumberRise.f
  repeat' first
      | (with_reducible exact ih0 _ _ _)
      | (with_reducible exact gantletlaw10_awake.mono _)
      | (with_reducible exact number_Put.mono _ _)
      | (with_reducible exact LeO.refl _)
      | (with_reducible exact LeO.none _)
      | (with_reducible refine LeO.ite ?_ ?_)
      | (with_reducible refine LeO.bind ?_ (fun _ => ?_))
      | exact ih0 _ _ _
      | exact gantletlaw10_awake.mono _
      | exact number_Put.mono _ _
      | exact LeO.none _
      | refine LeO.ite ?_ ?_
      | refine LeO.bind ?_ (fun _ => ?_)
set_option maxHeartbeats 8000000 in
set_option maxRecDepth 100000 in
theorem gantletlaw10_NumberRise.calls (k : Nat) (a0 : Int) (a1 : Int) (r : Bool) (w : World) (h : gantletlaw10_NumberRise.f k a0 a1 = some r) :
    Calls Try.prog 8 #[.int .i64 a0, .int .i64 a1] w fun e w' => e = .returned (.bool r) ∧ Below w.heap.size w w' := by
  have HB := Aside0.mk (Below.refl w.heap.size w)
  have H : ((gantletlaw10_awake.f k).bind fun t239 => (if t239 = true then (if a0 < 0 then (gantletlaw10_NumberRise.j0 k a0 a1 true) else (gantletlaw10_NumberRise.j0 k a0 a1 (decide (a1 < a0)))) else (gantletlaw10_NumberRise.j0 k a0 a1 true))) = some r := h
  clear h
  have HC3 := Aside0.mk H
  clear H
  go_enter Try.func8, Try.ntmps8
  go_upto_region 1 with (fail)
  go_cut [17] (fun v17 wc => ∃ (kq : Nat) (x17_2 : Bool), v17 = .bool x17_2 ∧ Aside0 (gantletlaw10_NumberRise.j0 kq a0 a1 x17_2 = some r) ∧ Aside0 (kq ≤ k) ∧ Aside0 (Below w.heap.size w wc))
  case first =>
    have H := HC3.out
    clear HC3
    replace H := Option.bind_eq_some_iff.mp H
    obtain ⟨t239, A40, H⟩ := H
    replace H : (if t239 = true then (if a0 < 0 then (gantletlaw10_NumberRise.j0 k a0 a1 true) else (gantletlaw10_NumberRise.j0 k a0 a1 (decide (a1 < a0)))) else (gantletlaw10_NumberRise.j0 k a0 a1 true)) = some r := H
    have A4 := Aside0.mk A40
    clear A40
    by_cases c5 : t239 = true
    · subst c5
      have H1 : (if a0 < 0 then (gantletlaw10_NumberRise.j0 k a0 a1 true) else (gantletlaw10_NumberRise.j0 k a0 a1 (decide (a1 < a0)))) = some r := by rw [if_pos rfl] at H; exact H
      clear H
      have H := H1
      clear H1
      by_cases c6 : a0 < 0
      · rw [if_pos c6] at H
        have c6b0 : decide (a0 < 0) = true := decide_eq_true c6
        clear c6
        (first | rw [c6b0] | (simp only [i64_w, i32_w]; rw [c6b0]) | skip)
        have H' := Aside0.mk H
        clear H
        go_wp2_with (first | ((with_reducible refine gate_callee (f := 9) rfl ?_); refine goesL_ (some 7) rfl rfl Try.func9 (by kernel_rfl) rfl #[] rfl (by (try simp only [List.map_toArray, List.map_cons, List.map_nil]); first | done | rfl | (simp only [List.length_drop, List.length_take]; rfl)) ?_; (with_reducible refine (gantletlaw10_awake.calls k  true _ A4.out).mono ?_); rintro e w7 ⟨rfl, hb⟩; refine ⟨_, rfl, ?_⟩; have n0_ := Aside0.mk (below_step (by repeat (first | (with_reducible first | exact HB.out | apply below_alloc | apply pw_below_drewN | apply below_drew1) | exact HB.out)) hb); clear HB; have HB := n0_; clear n0_; (try clear hb); (try clear hb2); (try clear hk); (try clear hi)))
        go_meet
        case rel => exact ⟨_, (true), (by first | rfl | (simp; done) | (simp [*]; done)), H', ⟨by first | omega | exact Nat.le_refl _⟩, ⟨by repeat (first | (with_reducible first | exact HB.out | apply below_alloc | apply pw_below_drewN | apply below_drew1) | exact HB.out)⟩⟩
      · rw [if_neg c6] at H
        have c6b0 : decide (a0 < 0) = false := decide_eq_false c6
        clear c6
        (first | rw [c6b0] | (simp only [i64_w, i32_w]; rw [c6b0]) | skip)
        have H' := Aside0.mk H
        clear H
        go_wp2_with (first | ((with_reducible refine gate_callee (f := 9) rfl ?_); refine goesL_ (some 7) rfl rfl Try.func9 (by kernel_rfl) rfl #[] rfl (by (try simp only [List.map_toArray, List.map_cons, List.map_nil]); first | done | rfl | (simp only [List.length_drop, List.length_take]; rfl)) ?_; (with_reducible refine (gantletlaw10_awake.calls k  true _ A4.out).mono ?_); rintro e w8 ⟨rfl, hb⟩; refine ⟨_, rfl, ?_⟩; have n0_ := Aside0.mk (below_step (by repeat (first | (with_reducible first | exact HB.out | apply below_alloc | apply pw_below_drewN | apply below_drew1) | exact HB.out)) hb); clear HB; have HB := n0_; clear n0_; (try clear hb); (try clear hb2); (try clear hk); (try clear hi)))
        go_meet
        case rel => exact ⟨_, (decide (a1 < a0)), (by first | rfl | (simp; done) | (simp [*]; done)), H', ⟨by first | omega | exact Nat.le_refl _⟩, ⟨by repeat (first | (with_reducible first | exact HB.out | apply below_alloc | apply pw_below_drewN | apply below_drew1) | exact HB.out)⟩⟩
    · replace c5 := Bool.eq_false_iff.mpr c5
      subst c5
      have H1 : (gantletlaw10_NumberRise.j0 k a0 a1 true) = some r := by rw [if_neg (show ¬ (false = true) by decide)] at H; exact H
      clear H
      have H := H1
      clear H1
      have H' := Aside0.mk H
      clear H
      go_wp2_with (first | ((with_reducible refine gate_callee (f := 9) rfl ?_); refine goesL_ (some 7) rfl rfl Try.func9 (by kernel_rfl) rfl #[] rfl (by (try simp only [List.map_toArray, List.map_cons, List.map_nil]); first | done | rfl | (simp only [List.length_drop, List.length_take]; rfl)) ?_; (with_reducible refine (gantletlaw10_awake.calls k  false _ A4.out).mono ?_); rintro e w9 ⟨rfl, hb⟩; refine ⟨_, rfl, ?_⟩; have n0_ := Aside0.mk (below_step (by repeat (first | (with_reducible first | exact HB.out | apply below_alloc | apply pw_below_drewN | apply below_drew1) | exact HB.out)) hb); clear HB; have HB := n0_; clear n0_; (try clear hb); (try clear hb2); (try clear hk); (try clear hi)))
      go_meet
      case rel => exact ⟨_, (true), (by first | rfl | (simp; done) | (simp [*]; done)), H', ⟨by first | omega | exact Nat.le_refl _⟩, ⟨by repeat (first | (with_reducible first | exact HB.out | apply below_alloc | apply pw_below_drewN | apply below_drew1) | exact HB.out)⟩⟩
  case rest =>
    clear HC3
    try clear p2
    try clear c5
    try clear c6
    try clear c6b0
    try clear c8
    try clear c9
    obtain ⟨kq, x17_2, rfl, HA, HJ2, HB⟩ := hcut
    cases kq with
    | zero => exact absurd HA.out (by simp [gantletlaw10_NumberRise.j0])
    | succ kj2 =>
      have H := HA.out
      clear HA
      simp only [gantletlaw10_NumberRise.j0] at H
      by_cases c10 : x17_2 = true
      · subst c10
        have H1 : ((gantletlaw10_awake.f kj2).bind fun t240 => (some t240)) = some r := by rw [if_pos rfl] at H; exact H
        clear H
        have H := H1
        clear H1
        replace H := Option.bind_eq_some_iff.mp H
        obtain ⟨t240, A110, H⟩ := H
        replace H : (some t240) = some r := H
        have A11 := Aside0.mk A110
        clear A110
        obtain rfl := Option.some.inj H
        go_wp2_with (first | ((with_reducible refine gate_callee (f := 9) rfl ?_); refine goesL_ (some 18) rfl rfl Try.func9 (by kernel_rfl) rfl #[] rfl (by (try simp only [List.map_toArray, List.map_cons, List.map_nil]); first | done | rfl | (simp only [List.length_drop, List.length_take]; rfl)) ?_; (with_reducible refine (gantletlaw10_awake.calls kj2  t240 _ A11.out).mono ?_); rintro e w12 ⟨rfl, hb⟩; refine ⟨_, rfl, ?_⟩; have n0_ := Aside0.mk (below_step (by repeat (first | (with_reducible first | exact HB.out | apply below_alloc | apply pw_below_drewN | apply below_drew1) | exact HB.out)) hb); clear HB; have HB := n0_; clear n0_; (try clear hb); (try clear hb2); (try clear hk); (try clear hi)))
        go_ret
        exact ⟨by first | rfl | (simp [errW_none, errW_some] <;> rfl) | (simp [*, errW_none, errW_some] <;> rfl), by repeat (first | (with_reducible first | exact HB.out | apply below_alloc | apply pw_below_drewN | apply below_drew1) | exact HB.out)⟩
      · replace c10 := Bool.eq_false_iff.mpr c10
        subst c10
        have H1 : ((number_Put.f kj2 a0).bind fun t241 => ((number_Put.f kj2 a1).bind fun t242 => (if (t241.size : Int) ≤ (t242.size : Int) then (if (t241.size : Int) < (t242.size : Int) then (some ((a0 == a1) == (t241.toList == t242.toList))) else (if ((Op.bytesLess t242.toList t241.toList) = true) then (none) else (some ((a0 == a1) == (t241.toList == t242.toList))))) else (none)))) = some r := by rw [if_neg (show ¬ (false = true) by decide)] at H; exact H
        clear H
        have H := H1
        clear H1
        replace H := Option.bind_eq_some_iff.mp H
        obtain ⟨t241, A130, H⟩ := H
        replace H : ((number_Put.f kj2 a1).bind fun t242 => (if (t241.size : Int) ≤ (t242.size : Int) then (if (t241.size : Int) < (t242.size : Int) then (some ((a0 == a1) == (t241.toList == t242.toList))) else (if ((Op.bytesLess t242.toList t241.toList) = true) then (none) else (some ((a0 == a1) == (t241.toList == t242.toList))))) else (none))) = some r := H
        have A13 := Aside0.mk A130
        clear A130
        replace H := Option.bind_eq_some_iff.mp H
        obtain ⟨t242, A140, H⟩ := H
        replace H : (if (t241.size : Int) ≤ (t242.size : Int) then (if (t241.size : Int) < (t242.size : Int) then (some ((a0 == a1) == (t241.toList == t242.toList))) else (if ((Op.bytesLess t242.toList t241.toList) = true) then (none) else (some ((a0 == a1) == (t241.toList == t242.toList))))) else (none)) = some r := H
        have A14 := Aside0.mk A140
        clear A140
        by_cases c15 : (t241.size : Int) ≤ (t242.size : Int)
        · rw [if_pos c15] at H
          have c15b0 : decide ((t241.size : Int) ≤ (t242.size : Int)) = true := decide_eq_true c15
          have c15b1 : decide (t241.size ≤ t242.size) = true := decide_eq_true (Int.ofNat_le.mp c15)
          clear c15
          by_cases c16 : (t241.size : Int) < (t242.size : Int)
          · rw [if_pos c16] at H
            have c16b0 : decide ((t241.size : Int) < (t242.size : Int)) = true := decide_eq_true c16
            have c16b1 : decide (t241.size < t242.size) = true := decide_eq_true (Int.ofNat_lt.mp c16)
            clear c16
            obtain rfl := Option.some.inj H
            go_wp2_with (first | ((with_reducible refine gate_callee (f := 15) rfl ?_); refine goesL_ (some 20) rfl rfl Try.func15 (by kernel_rfl) rfl #[.int .i64 a0] rfl (by (try simp only [List.map_toArray, List.map_cons, List.map_nil]); first | done | rfl | (simp only [List.length_drop, List.length_take]; rfl)) ?_; (with_reducible refine (number_Put.calls kj2 a0 t241 _ A13.out).mono ?_); rintro e w17 ⟨rfl, hb⟩; refine ⟨_, rfl, ?_⟩; have n0_ := Aside0.mk (below_step (by repeat (first | (with_reducible first | exact HB.out | apply below_alloc | apply pw_below_drewN | apply below_drew1) | exact HB.out)) hb); clear HB; have HB := n0_; clear n0_; (try clear hb); (try clear hb2); (try clear hk); (try clear hi)) | ((with_reducible refine gate_callee (f := 15) rfl ?_); refine goesL_ (some 22) rfl rfl Try.func15 (by kernel_rfl) rfl #[.int .i64 a1] rfl (by (try simp only [List.map_toArray, List.map_cons, List.map_nil]); first | done | rfl | (simp only [List.length_drop, List.length_take]; rfl)) ?_; (with_reducible refine (number_Put.calls kj2 a1 t242 _ A14.out).mono ?_); rintro e w18 ⟨rfl, hb⟩; refine ⟨_, rfl, ?_⟩; have n0_ := Aside0.mk (below_step (by repeat (first | (with_reducible first | exact HB.out | apply below_alloc | apply pw_below_drewN | apply below_drew1) | exact HB.out)) hb); clear HB; have HB := n0_; clear n0_; (try clear hb); (try clear hb2); (try clear hk); (try clear hi)))
            go_ret
            exact ⟨by first | rfl | (simp [errW_none, errW_some] <;> rfl) | (simp [*, errW_none, errW_some] <;> rfl), by repeat (first | (with_reducible first | exact HB.out | apply below_alloc | apply pw_below_drewN | apply below_drew1) | exact HB.out)⟩
          · rw [if_neg c16] at H
            have c16b0 : decide ((t241.size : Int) < (t242.size : Int)) = false := decide_eq_false c16
            have c16b1 : decide (t241.size < t242.size) = false := decide_eq_false (fun h => c16 (Int.ofNat_lt.mpr h))
            clear c16
            by_cases c19 : ((Op.bytesLess t242.toList t241.toList) = true)
            · rw [if_pos c19] at H
              exact absurd H (by simp)
            · rw [if_neg c19] at H
              have c19b0 : (Op.bytesLess t242.toList t241.toList) = false := by simpa using c19
              clear c19
              obtain rfl := Option.some.inj H
              go_wp2_with (first | ((with_reducible refine gate_callee (f := 15) rfl ?_); refine goesL_ (some 20) rfl rfl Try.func15 (by kernel_rfl) rfl #[.int .i64 a0] rfl (by (try simp only [List.map_toArray, List.map_cons, List.map_nil]); first | done | rfl | (simp only [List.length_drop, List.length_take]; rfl)) ?_; (with_reducible refine (number_Put.calls kj2 a0 t241 _ A13.out).mono ?_); rintro e w20 ⟨rfl, hb⟩; refine ⟨_, rfl, ?_⟩; have n0_ := Aside0.mk (below_step (by repeat (first | (with_reducible first | exact HB.out | apply below_alloc | apply pw_below_drewN | apply below_drew1) | exact HB.out)) hb); clear HB; have HB := n0_; clear n0_; (try clear hb); (try clear hb2); (try clear hk); (try clear hi)) | ((with_reducible refine gate_callee (f := 15) rfl ?_); refine goesL_ (some 22) rfl rfl Try.func15 (by kernel_rfl) rfl #[.int .i64 a1] rfl (by (try simp only [List.map_toArray, List.map_cons, List.map_nil]); first | done | rfl | (simp only [List.length_drop, List.length_take]; rfl)) ?_; (with_reducible refine (number_Put.calls kj2 a1 t242 _ A14.out).mono ?_); rintro e w21 ⟨rfl, hb⟩; refine ⟨_, rfl, ?_⟩; have n0_ := Aside0.mk (below_step (by repeat (first | (with_reducible first | exact HB.out | apply below_alloc | apply pw_below_drewN | apply below_drew1) | exact HB.out)) hb); clear HB; have HB := n0_; clear n0_; (try clear hb); (try clear hb2); (try clear hk); (try clear hi)))
              go_ret
              exact ⟨by first | rfl | (simp [errW_none, errW_some] <;> rfl) | (simp [*, errW_none, errW_some] <;> rfl), by repeat (first | (with_reducible first | exact HB.out | apply below_alloc | apply pw_below_drewN | apply below_drew1) | exact HB.out)⟩
        · rw [if_neg c15] at H
          exact absurd H (by simp)

/-- THE ONE PURE STATEMENT of gantletlaw10_NumberRise: yours. -/
def gantletlaw10_NumberRise.Pure : Prop := ∀ (a0 : Int) (a1 : Int), (Lit.int .i64 a0).wf = true → (Lit.int .i64 a1).wf = true → ∃ k, gantletlaw10_NumberRise.f k a0 a1 = some true
theorem gantletlaw10_NumberRise.walk (P : gantletlaw10_NumberRise.Pure) (a0 : Int) (a1 : Int) (w : World) (w0 : (Lit.int .i64 a0).wf = true) (w1 : (Lit.int .i64 a1).wf = true) :
    Calls Try.prog 8 #[.int .i64 a0, .int .i64 a1] w fun e w' => e = .returned (.bool true) ∧ Below w.heap.size w w' := by
  obtain ⟨k, h⟩ := P a0 a1 w0 w1
  refine (gantletlaw10_NumberRise.calls k a0 a1 true w h).mono ?_
  rintro e w' ⟨rfl, hd⟩
  exact ⟨rfl, hd⟩

end Go.Proofs.Ytghkfoaiieajhaa.PA
