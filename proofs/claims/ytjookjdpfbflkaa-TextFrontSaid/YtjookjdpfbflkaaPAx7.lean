-- Written by a program of this session (print2, a turned print): not PRINTED BY print.sh
import Derived.Test.YtjookjdpfbflkaaPAx0
import Derived.Test.YtjookjdpfbflkaaPAx1
import Derived.Test.YtjookjdpfbflkaaPAx2
namespace Go.Proofs.Ytjookjdpfbflkaa.PA
open Go.RowKit Go.Proofs.YtjookjdpfbflkaaW.PrintWords Go.Proofs.YtjookjdpfbflkaaW.PrintLast Go.Proofs.YtjookjdpfbflkaaW.PrintMore
attribute [local go_sem] max2_int min2_int max_two min_two max_three min_three max_four min_four   -- for this text's walks alone
set_option linter.unusedVariables false
set_option linter.unusedSimpArgs false

/-! ### gantletlaw14_TextFront: function 6 -/
mutual
def gantletlaw14_TextFront.j0 : Nat → ByteArray → Int → Bool → Option (Bool)
  | 0, _, _, _ => none
  | k + 1, x0, x1, x14 => if x14 = true then ((gantletlaw14_awake.f k).bind fun t207 => (some t207)) else ((text_Check.f k 19 x0).bind fun t208 => (if t208 = true then ((text_Check.f k 22 x0).bind fun t209 => (if t209 = true then ((text_Check.f k 22 x0).bind fun t210 => (if t210 = true then ((text_Check.f k 12 x0).bind fun t211 => (gantletlaw14_TextFront.j1 k x0 x1 (!t211))) else (gantletlaw14_TextFront.j1 k x0 x1 false))) else (gantletlaw14_TextFront.j1 k x0 x1 true))) else ((text_Check.f k 22 x0).bind fun t212 => (if t212 = true then ((text_Check.f k 12 x0).bind fun t213 => (gantletlaw14_TextFront.j1 k x0 x1 (!t213))) else (gantletlaw14_TextFront.j1 k x0 x1 false)))))
def gantletlaw14_TextFront.j1 : Nat → ByteArray → Int → Bool → Option (Bool)
  | 0, _, _, _ => none
  | k + 1, x0, x1, x31 => if x31 = true then (none) else ((text_Check.f k 12 x0).bind fun t214 => (if t214 = true then (if x1 < 0 then (gantletlaw14_TextFront.j2 k x0 x1 true) else (gantletlaw14_TextFront.j2 k x0 x1 (decide (x1 > (x0.size : Int))))) else (gantletlaw14_TextFront.j2 k x0 x1 true)))
def gantletlaw14_TextFront.j2 : Nat → ByteArray → Int → Bool → Option (Bool)
  | 0, _, _, _ => none
  | k + 1, x0, x1, x44 => if x44 = true then (some true) else ((text_Start.f 12 (x0.size : Int)).bind fun bt215 => (gantletlaw14_TextFront.l0 k x0 x1 bt215.2.2.2.2.2 0 bt215.1 bt215.2.1 bt215.2.2.1 bt215.2.2.2.1 bt215.2.2.2.2.1))
def gantletlaw14_TextFront.l0 : Nat → ByteArray → Int → Bool → Int → Int → Int → Int → Int → Int → Option (Bool)
  | 0, _, _, _, _, _, _, _, _, _ => none
  | k + 1, x0, x1, x6, x7, x222000, x222001, x222002, x222003, x222004 => if x6 = true then (if x7 < x1 then (if 0 ≤ x7 then (if x7 < (x0.size : Int) then ((text_State_Push.f k x222000 x222001 x222002 x222003 x222004 (bt x0 x7)).bind fun bt222 => (gantletlaw14_TextFront.l0 k x0 x1 bt222.2.2.2.2.2 (wrap64 (x7 + 1)) bt222.1 bt222.2.1 bt222.2.2.1 bt222.2.2.2.1 bt222.2.2.2.2.1)) else (none)) else (none)) else (some x6)) else (some x6)
end
def gantletlaw14_TextFront.f (k : Nat) (a0 : ByteArray) (a1 : Int) : Option (Bool) := (gantletlaw14_awake.f k).bind fun t206 => (if t206 = true then (gantletlaw14_TextFront.j0 k a0 a1 (decide ((a0.size : Int) > 300))) else (gantletlaw14_TextFront.j0 k a0 a1 true))
theorem gantletlaw14_TextFront.mono_l : ∀ k, (∀ y0 y1 y2, LeO (gantletlaw14_TextFront.j0 k y0 y1 y2) (gantletlaw14_TextFront.j0 (k + 1) y0 y1 y2)) ∧ (∀ y0 y1 y2, LeO (gantletlaw14_TextFront.j1 k y0 y1 y2) (gantletlaw14_TextFront.j1 (k + 1) y0 y1 y2)) ∧ (∀ y0 y1 y2, LeO (gantletlaw14_TextFront.j2 k y0 y1 y2) (gantletlaw14_TextFront.j2 (k + 1) y0 y1 y2)) ∧ (∀ y0 y1 y2 y3 y4 y5 y6 y7 y8, LeO (gantletlaw14_TextFront.l0 k y0 y1 y2 y3 y4 y5 y6 y7 y8) (gantletlaw14_TextFront.l0 (k + 1) y0 y1 y2 y3 y4 y5 y6 y7 y8))
  | 0 => ⟨fun _ _ _ r h => by simp [gantletlaw14_TextFront.j0] at h, fun _ _ _ r h => by simp [gantletlaw14_TextFront.j1] at h, fun _ _ _ r h => by simp [gantletlaw14_TextFront.j2] at h, fun _ _ _ _ _ _ _ _ _ r h => by simp [gantletlaw14_TextFront.l0] at h⟩
  | k + 1 => by
    obtain ⟨ih0, ih1, ih2, ih3⟩ := gantletlaw14_TextFront.mono_l k
    refine ⟨?_, ?_, ?_, ?_⟩
    · intro y0 y1 y2
      unfold gantletlaw14_TextFront.j0
      repeat' first
      | (with_reducible exact ih0 _ _ _)
      | (with_reducible exact ih1 _ _ _)
      | (with_reducible exact ih2 _ _ _)
      | (with_reducible exact ih3 _ _ _ _ _ _ _ _ _)
      | (with_reducible exact gantletlaw14_awake.mono _)
      | (with_reducible exact text_Check.mono _ _ _)
      | (with_reducible exact text_State_Push.mono _ _ _ _ _ _ _)
      | (with_reducible exact LeO.refl _)
      | (with_reducible exact LeO.none _)
      | (with_reducible refine LeO.ite ?_ ?_)
      | (with_reducible refine LeO.bind ?_ (fun _ => ?_))
      | exact ih0 _ _ _
      | exact ih1 _ _ _
      | exact ih2 _ _ _
      | exact ih3 _ _ _ _ _ _ _ _ _
      | exact gantletlaw14_awake.mono _
      | exact text_Check.mono _ _ _
      | exact text_State_Push.mono _ _ _ _ _ _ _
      | exact LeO.none _
      | refine LeO.ite ?_ ?_
      | refine LeO.bind ?_ (fun _ => ?_)
    · intro y0 y1 y2
      unfold gantletlaw14_TextFront.j1
      repeat' first
      | (with_reducible exact ih0 _ _ _)
      | (with_reducible exact ih1 _ _ _)
      | (with_reducible exact ih2 _ _ _)
      | (with_reducible exact ih3 _ _ _ _ _ _ _ _ _)
      | (with_reducible exact gantletlaw14_awake.mono _)
      | (with_reducible exact text_Check.mono _ _ _)
      | (with_reducible exact text_State_Push.mono _ _ _ _ _ _ _)
      | (with_reducible exact LeO.refl _)
      | (with_reducible exact LeO.none _)
      | (with_reducible refine LeO.ite ?_ ?_)
      | (with_reducible refine LeO.bind ?_ (fun _ => ?_))
      | exact ih0 _ _ _
      | exact ih1 _ _ _
      | exact ih2 _ _ _
      | exact ih3 _ _ _ _ _ _ _ _ _
      | exact gantletlaw14_awake.mono _
      | exact text_Check.mono _ _ _
      | exact text_State_Push.mono _ _ _ _ _ _ _
      | exact LeO.none _
      | refine LeO.ite ?_ ?_
      | refine LeO.bind ?_ (fun _ => ?_)
    · intro y0 y1 y2
      unfold gantletlaw14_TextFront.j2
      repeat' first
      | (with_reducible exact ih0 _ _ _)
      | (with_reducible exact ih1 _ _ _)
      | (with_reducible exact ih2 _ _ _)
      | (with_reducible exact ih3 _ _ _ _ _ _ _ _ _)
      | (with_reducible exact gantletlaw14_awake.mono _)
      | (with_reducible exact text_Check.mono _ _ _)
      | (with_reducible exact text_State_Push.mono _ _ _ _ _ _ _)
      | (with_reducible exact LeO.refl _)
      | (with_reducible exact LeO.none _)
      | (with_reducible refine LeO.ite ?_ ?_)
      | (with_reducible refine LeO.bind ?_ (fun _ => ?_))
      | exact ih0 _ _ _
      | exact ih1 _ _ _
      | exact ih2 _ _ _
      | exact ih3 _ _ _ _ _ _ _ _ _
      | exact gantletlaw14_awake.mono _
      | exact text_Check.mono _ _ _
      | exact text_State_Push.mono _ _ _ _ _ _ _
      | exact LeO.none _
      | refine LeO.ite ?_ ?_
      | refine LeO.bind ?_ (fun _ => ?_)
    · intro y0 y1 y2 y3 y4 y5 y6 y7 y8
      unfold gantletlaw14_TextFront.l0
      repeat' first
      | (with_reducible exact ih0 _ _ _)
      | (with_reducible exact ih1 _ _ _)
      | (with_reducible exact ih2 _ _ _)
      | (with_reducible exact ih3 _ _ _ _ _ _ _ _ _)
      | (with_reducible exact gantletlaw14_awake.mono _)
      | (with_reducible exact text_Check.mono _ _ _)
      | (with_reducible exact text_State_Push.mono _ _ _ _ _ _ _)
      | (with_reducible exact LeO.refl _)
      | (with_reducible exact LeO.none _)
      | (with_reducible refine LeO.ite ?_ ?_)
      | (with_reducible refine LeO.bind ?_ (fun _ => ?_))
      | exact ih0 _ _ _
      | exact ih1 _ _ _
      | exact ih2 _ _ _
      | exact ih3 _ _ _ _ _ _ _ _ _
      | exact gantletlaw14_awake.mono _
      | exact text_Check.mono _ _ _
      | exact text_State_Push.mono _ _ _ _ _ _ _
      | exact LeO.none _
      | refine LeO.ite ?_ ?_
      | refine LeO.bind ?_ (fun _ => ?_)
theorem gantletlaw14_TextFront.mono : ∀ a0 a1 k, LeO (gantletlaw14_TextFront.f k a0 a1) (gantletlaw14_TextFront.f (k + 1) a0 a1) := by
  intro a0 a1 k
  obtain ⟨ih0, ih1, ih2, ih3⟩ := gantletlaw14_TextFront.mono_l k
  unfold gantletlaw14_TextFront.f
  repeat' first
      | (with_reducible exact ih0 _ _ _)
      | (with_reducible exact ih1 _ _ _)
      | (with_reducible exact ih2 _ _ _)
      | (with_reducible exact ih3 _ _ _ _ _ _ _ _ _)
      | (with_reducible exact gantletlaw14_awake.mono _)
      | (with_reducible exact text_Check.mono _ _ _)
      | (with_reducible exact text_State_Push.mono _ _ _ _ _ _ _)
      | (with_reducible exact LeO.refl _)
      | (with_reducible exact LeO.none _)
      | (with_reducible refine LeO.ite ?_ ?_)
      | (with_reducible refine LeO.bind ?_ (fun _ => ?_))
      | exact ih0 _ _ _
      | exact ih1 _ _ _
      | exact ih2 _ _ _
      | exact ih3 _ _ _ _ _ _ _ _ _
      | exact gantletlaw14_awake.mono _
      | exact text_Check.mono _ _ _
      | exact text_State_Push.mono _ _ _ _ _ _ _
      | exact LeO.none _
      | refine LeO.ite ?_ ?_
      | refine LeO.bind ?_ (fun _ => ?_)
def gantletlaw14_TextFront.T11 : Bool × List (List Nat × List Nat) := (true, [([], []), ([], []), ([], []), ([1, 2], [1, 2]), ([0, 3], [0, 3]), ([4], [4]), ([5], [5]), ([5], [5]), ([6, 4, 0, 1, 2, 3, 4, 5, 6], [6]), ([7, 8, 0, 1, 2, 3, 4, 5, 6, 7, 8], [7])])
def gantletlaw14_TextFront.B11 : List Nat := [0, 0, 0, 6, 15, 31, 63, 63, 127, 511]
theorem gantletlaw14_TextFront.tab11 : rtab .any (opsOf Try.f6 11) = gantletlaw14_TextFront.T11 := by kernel_rfl
theorem gantletlaw14_TextFront.bits11 : waitsOk gantletlaw14_TextFront.T11.2 gantletlaw14_TextFront.B11 = true := by kernel_rfl
set_option maxHeartbeats 8000000 in
set_option maxRecDepth 100000 in
theorem gantletlaw14_TextFront.calls (k : Nat) (a0 : ByteArray) (a1 : Int) (r : Bool) (w : World) (h : gantletlaw14_TextFront.f k a0 a1 = some r) :
    Calls Try.prog 6 #[.string a0, .int .i64 a1] w fun e w' => e = .returned (.bool r) ∧ Below w.heap.size w w' := by
  have hu25 := Try.underlying25
  have HB := Aside0.mk (Below.refl w.heap.size w)
  have H : ((gantletlaw14_awake.f k).bind fun t206 => (if t206 = true then (gantletlaw14_TextFront.j0 k a0 a1 (decide ((a0.size : Int) > 300))) else (gantletlaw14_TextFront.j0 k a0 a1 true))) = some r := h
  clear h
  have HC3 := Aside0.mk H
  clear H
  go_enter Try.func6, Try.ntmps6
  go_upto_region 1 with (fail)
  go_cut [14] (fun v14 wc => ∃ (kq : Nat) (x14_2 : Bool), v14 = .bool x14_2 ∧ Aside0 (gantletlaw14_TextFront.j0 kq a0 a1 x14_2 = some r) ∧ Aside0 (kq ≤ k) ∧ Aside0 (Below w.heap.size w wc))
  case first =>
    have H := HC3.out
    clear HC3
    replace H := Option.bind_eq_some_iff.mp H
    obtain ⟨t206, A40, H⟩ := H
    replace H : (if t206 = true then (gantletlaw14_TextFront.j0 k a0 a1 (decide ((a0.size : Int) > 300))) else (gantletlaw14_TextFront.j0 k a0 a1 true)) = some r := H
    have A4 := Aside0.mk A40
    clear A40
    by_cases c5 : t206 = true
    · subst c5
      have H1 : (gantletlaw14_TextFront.j0 k a0 a1 (decide ((a0.size : Int) > 300))) = some r := by rw [if_pos rfl] at H; exact H
      clear H
      have H := H1
      clear H1
      have H' := Aside0.mk H
      clear H
      go_wp2_with (first | ((with_reducible refine gate_callee (f := 8) rfl ?_); refine goesL_ (some 8) rfl rfl Try.func8 (by kernel_rfl) rfl #[] rfl (by (try simp only [List.map_toArray, List.map_cons, List.map_nil]); first | done | rfl | (simp only [List.length_drop, List.length_take]; rfl)) ?_; (with_reducible refine (gantletlaw14_awake.calls k  true _ A4.out).mono ?_); rintro e w6 ⟨rfl, hb⟩; refine ⟨_, rfl, ?_⟩; have n0_ := Aside0.mk (below_step (by repeat (first | (with_reducible first | exact HB.out | apply below_alloc | apply pw_below_drewN | apply below_drew1) | exact HB.out)) hb); clear HB; have HB := n0_; clear n0_; (try clear hb); (try clear hb2); (try clear hk); (try clear hi)))
      go_meet
      case rel => exact ⟨_, (decide ((a0.size : Int) > 300)), (by first | rfl | (simp; done) | (simp [*]; done)), H', ⟨by first | omega | exact Nat.le_refl _⟩, ⟨by repeat (first | (with_reducible first | exact HB.out | apply below_alloc | apply pw_below_drewN | apply below_drew1) | exact HB.out)⟩⟩
    · replace c5 := Bool.eq_false_iff.mpr c5
      subst c5
      have H1 : (gantletlaw14_TextFront.j0 k a0 a1 true) = some r := by rw [if_neg (show ¬ (false = true) by decide)] at H; exact H
      clear H
      have H := H1
      clear H1
      have H' := Aside0.mk H
      clear H
      go_wp2_with (first | ((with_reducible refine gate_callee (f := 8) rfl ?_); refine goesL_ (some 8) rfl rfl Try.func8 (by kernel_rfl) rfl #[] rfl (by (try simp only [List.map_toArray, List.map_cons, List.map_nil]); first | done | rfl | (simp only [List.length_drop, List.length_take]; rfl)) ?_; (with_reducible refine (gantletlaw14_awake.calls k  false _ A4.out).mono ?_); rintro e w7 ⟨rfl, hb⟩; refine ⟨_, rfl, ?_⟩; have n0_ := Aside0.mk (below_step (by repeat (first | (with_reducible first | exact HB.out | apply below_alloc | apply pw_below_drewN | apply below_drew1) | exact HB.out)) hb); clear HB; have HB := n0_; clear n0_; (try clear hb); (try clear hb2); (try clear hk); (try clear hi)))
      go_meet
      case rel => exact ⟨_, (true), (by first | rfl | (simp; done) | (simp [*]; done)), H', ⟨by first | omega | exact Nat.le_refl _⟩, ⟨by repeat (first | (with_reducible first | exact HB.out | apply below_alloc | apply pw_below_drewN | apply below_drew1) | exact HB.out)⟩⟩
  case rest =>
    clear HC3
    try clear p2
    try clear c5
    try clear c6
    obtain ⟨kq, x14_2, rfl, HA, HJ2, HB⟩ := hcut
    cases kq with
    | zero => exact absurd HA.out (by simp [gantletlaw14_TextFront.j0])
    | succ kj2 =>
      have H := HA.out
      clear HA
      simp only [gantletlaw14_TextFront.j0] at H
      by_cases c8 : x14_2 = true
      · subst c8
        have H1 : ((gantletlaw14_awake.f kj2).bind fun t207 => (some t207)) = some r := by rw [if_pos rfl] at H; exact H
        clear H
        have H := H1
        clear H1
        replace H := Option.bind_eq_some_iff.mp H
        obtain ⟨t207, A90, H⟩ := H
        replace H : (some t207) = some r := H
        have A9 := Aside0.mk A90
        clear A90
        obtain rfl := Option.some.inj H
        go_wp2_with (first | ((with_reducible refine gate_callee (f := 8) rfl ?_); refine goesL_ (some 15) rfl rfl Try.func8 (by kernel_rfl) rfl #[] rfl (by (try simp only [List.map_toArray, List.map_cons, List.map_nil]); first | done | rfl | (simp only [List.length_drop, List.length_take]; rfl)) ?_; (with_reducible refine (gantletlaw14_awake.calls kj2  t207 _ A9.out).mono ?_); rintro e w10 ⟨rfl, hb⟩; refine ⟨_, rfl, ?_⟩; have n0_ := Aside0.mk (below_step (by repeat (first | (with_reducible first | exact HB.out | apply below_alloc | apply pw_below_drewN | apply below_drew1) | exact HB.out)) hb); clear HB; have HB := n0_; clear n0_; (try clear hb); (try clear hb2); (try clear hk); (try clear hi)))
        go_ret
        exact ⟨by first | rfl | (simp [errW_none, errW_some] <;> rfl) | (simp [*, errW_none, errW_some] <;> rfl), by repeat (first | (with_reducible first | exact HB.out | apply below_alloc | apply pw_below_drewN | apply below_drew1) | exact HB.out)⟩
      · replace c8 := Bool.eq_false_iff.mpr c8
        subst c8
        have H1 : ((text_Check.f kj2 19 a0).bind fun t208 => (if t208 = true then ((text_Check.f kj2 22 a0).bind fun t209 => (if t209 = true then ((text_Check.f kj2 22 a0).bind fun t210 => (if t210 = true then ((text_Check.f kj2 12 a0).bind fun t211 => (gantletlaw14_TextFront.j1 kj2 a0 a1 (!t211))) else (gantletlaw14_TextFront.j1 kj2 a0 a1 false))) else (gantletlaw14_TextFront.j1 kj2 a0 a1 true))) else ((text_Check.f kj2 22 a0).bind fun t212 => (if t212 = true then ((text_Check.f kj2 12 a0).bind fun t213 => (gantletlaw14_TextFront.j1 kj2 a0 a1 (!t213))) else (gantletlaw14_TextFront.j1 kj2 a0 a1 false))))) = some r := by rw [if_neg (show ¬ (false = true) by decide)] at H; exact H
        clear H
        have H := H1
        clear H1
        have HC11 := Aside0.mk H
        clear H
        go_upto_region 3 with (fail)
        go_cut [31] (fun v31 wc => ∃ (kq : Nat) (x31_10 : Bool), v31 = .bool x31_10 ∧ Aside0 (gantletlaw14_TextFront.j1 kq a0 a1 x31_10 = some r) ∧ Aside0 (kq ≤ kj2) ∧ Aside0 (Below w.heap.size w wc))
        case first =>
          have H := HC11.out
          clear HC11
          replace H := Option.bind_eq_some_iff.mp H
          obtain ⟨t208, A120, H⟩ := H
          replace H : (if t208 = true then ((text_Check.f kj2 22 a0).bind fun t209 => (if t209 = true then ((text_Check.f kj2 22 a0).bind fun t210 => (if t210 = true then ((text_Check.f kj2 12 a0).bind fun t211 => (gantletlaw14_TextFront.j1 kj2 a0 a1 (!t211))) else (gantletlaw14_TextFront.j1 kj2 a0 a1 false))) else (gantletlaw14_TextFront.j1 kj2 a0 a1 true))) else ((text_Check.f kj2 22 a0).bind fun t212 => (if t212 = true then ((text_Check.f kj2 12 a0).bind fun t213 => (gantletlaw14_TextFront.j1 kj2 a0 a1 (!t213))) else (gantletlaw14_TextFront.j1 kj2 a0 a1 false)))) = some r := H
          have A12 := Aside0.mk A120
          clear A120
          by_cases c13 : t208 = true
          · subst c13
            have H1 : ((text_Check.f kj2 22 a0).bind fun t209 => (if t209 = true then ((text_Check.f kj2 22 a0).bind fun t210 => (if t210 = true then ((text_Check.f kj2 12 a0).bind fun t211 => (gantletlaw14_TextFront.j1 kj2 a0 a1 (!t211))) else (gantletlaw14_TextFront.j1 kj2 a0 a1 false))) else (gantletlaw14_TextFront.j1 kj2 a0 a1 true))) = some r := by rw [if_pos rfl] at H; exact H
            clear H
            have H := H1
            clear H1
            replace H := Option.bind_eq_some_iff.mp H
            obtain ⟨t209, A140, H⟩ := H
            replace H : (if t209 = true then ((text_Check.f kj2 22 a0).bind fun t210 => (if t210 = true then ((text_Check.f kj2 12 a0).bind fun t211 => (gantletlaw14_TextFront.j1 kj2 a0 a1 (!t211))) else (gantletlaw14_TextFront.j1 kj2 a0 a1 false))) else (gantletlaw14_TextFront.j1 kj2 a0 a1 true)) = some r := H
            have A14 := Aside0.mk A140
            clear A140
            by_cases c15 : t209 = true
            · subst c15
              have H1 : ((text_Check.f kj2 22 a0).bind fun t210 => (if t210 = true then ((text_Check.f kj2 12 a0).bind fun t211 => (gantletlaw14_TextFront.j1 kj2 a0 a1 (!t211))) else (gantletlaw14_TextFront.j1 kj2 a0 a1 false))) = some r := by rw [if_pos rfl] at H; exact H
              clear H
              have H := H1
              clear H1
              replace H := Option.bind_eq_some_iff.mp H
              obtain ⟨t210, A160, H⟩ := H
              replace H : (if t210 = true then ((text_Check.f kj2 12 a0).bind fun t211 => (gantletlaw14_TextFront.j1 kj2 a0 a1 (!t211))) else (gantletlaw14_TextFront.j1 kj2 a0 a1 false)) = some r := H
              have A16 := Aside0.mk A160
              clear A160
              have hsm_ := A14.out.symm.trans A16.out
              simp only [Option.some.injEq, Prod.mk.injEq] at hsm_
              obtain rfl := hsm_
              replace H : ((text_Check.f kj2 12 a0).bind fun t211 => (gantletlaw14_TextFront.j1 kj2 a0 a1 (!t211))) = some r := by rw [if_pos rfl] at H; exact H
              replace H := Option.bind_eq_some_iff.mp H
              obtain ⟨t211, A170, H⟩ := H
              replace H : (gantletlaw14_TextFront.j1 kj2 a0 a1 (!t211)) = some r := H
              have A17 := Aside0.mk A170
              clear A170
              have H' := Aside0.mk H
              clear H
              go_wp2_with (first | ((with_reducible refine gate_callee (f := 12) rfl ?_); refine goesL_ (some 17) rfl rfl Try.func12 (by kernel_rfl) rfl #[.int .i64 19, .string a0] rfl (by (try simp only [List.map_toArray, List.map_cons, List.map_nil]); first | done | rfl | (simp only [List.length_drop, List.length_take]; rfl)) ?_; (with_reducible refine (text_Check.calls kj2 19 a0 true _ A12.out).mono ?_); rintro e w18 ⟨rfl, hb⟩; refine ⟨_, rfl, ?_⟩; have n0_ := Aside0.mk (below_step (by repeat (first | (with_reducible first | exact HB.out | apply below_alloc | apply pw_below_drewN | apply below_drew1) | exact HB.out)) hb); clear HB; have HB := n0_; clear n0_; (try clear hb); (try clear hb2); (try clear hk); (try clear hi)) | (go_at_call 12; (with_reducible refine (text_Check.calls kj2 22 a0 true _ A14.out).mono ?_); rintro e w19 ⟨rfl, hb⟩; have n0_ := Aside0.mk (below_step (by repeat (first | (with_reducible first | exact HB.out | apply below_alloc | apply pw_below_drewN | apply below_drew1) | exact HB.out)) hb); clear HB; have HB := n0_; clear n0_; (try clear hb); (try clear hb2); (try clear hk); (try clear hi)) | (go_at_call 12; (with_reducible refine (text_Check.calls kj2 22 a0 true _ A16.out).mono ?_); rintro e w20 ⟨rfl, hb⟩; have n0_ := Aside0.mk (below_step (by repeat (first | (with_reducible first | exact HB.out | apply below_alloc | apply pw_below_drewN | apply below_drew1) | exact HB.out)) hb); clear HB; have HB := n0_; clear n0_; (try clear hb); (try clear hb2); (try clear hk); (try clear hi)) | (go_at_call 12; (with_reducible refine (text_Check.calls kj2 12 a0 t211 _ A17.out).mono ?_); rintro e w21 ⟨rfl, hb⟩; have n0_ := Aside0.mk (below_step (by repeat (first | (with_reducible first | exact HB.out | apply below_alloc | apply pw_below_drewN | apply below_drew1) | exact HB.out)) hb); clear HB; have HB := n0_; clear n0_; (try clear hb); (try clear hb2); (try clear hk); (try clear hi)))
              go_meet
              case rel => exact ⟨_, (!t211), (by first | rfl | (simp; done) | (simp [*]; done)), H', ⟨by have := HJ2.out; first | omega | exact Nat.le_refl _⟩, ⟨by repeat (first | (with_reducible first | exact HB.out | apply below_alloc | apply pw_below_drewN | apply below_drew1) | exact HB.out)⟩⟩
            · replace c15 := Bool.eq_false_iff.mpr c15
              subst c15
              have H1 : (gantletlaw14_TextFront.j1 kj2 a0 a1 true) = some r := by rw [if_neg (show ¬ (false = true) by decide)] at H; exact H
              clear H
              have H := H1
              clear H1
              have H' := Aside0.mk H
              clear H
              go_wp2_with (first | ((with_reducible refine gate_callee (f := 12) rfl ?_); refine goesL_ (some 17) rfl rfl Try.func12 (by kernel_rfl) rfl #[.int .i64 19, .string a0] rfl (by (try simp only [List.map_toArray, List.map_cons, List.map_nil]); first | done | rfl | (simp only [List.length_drop, List.length_take]; rfl)) ?_; (with_reducible refine (text_Check.calls kj2 19 a0 true _ A12.out).mono ?_); rintro e w22 ⟨rfl, hb⟩; refine ⟨_, rfl, ?_⟩; have n0_ := Aside0.mk (below_step (by repeat (first | (with_reducible first | exact HB.out | apply below_alloc | apply pw_below_drewN | apply below_drew1) | exact HB.out)) hb); clear HB; have HB := n0_; clear n0_; (try clear hb); (try clear hb2); (try clear hk); (try clear hi)) | (go_at_call 12; (with_reducible refine (text_Check.calls kj2 22 a0 false _ A14.out).mono ?_); rintro e w23 ⟨rfl, hb⟩; have n0_ := Aside0.mk (below_step (by repeat (first | (with_reducible first | exact HB.out | apply below_alloc | apply pw_below_drewN | apply below_drew1) | exact HB.out)) hb); clear HB; have HB := n0_; clear n0_; (try clear hb); (try clear hb2); (try clear hk); (try clear hi)))
              go_meet
              case rel => exact ⟨_, (true), (by first | rfl | (simp; done) | (simp [*]; done)), H', ⟨by have := HJ2.out; first | omega | exact Nat.le_refl _⟩, ⟨by repeat (first | (with_reducible first | exact HB.out | apply below_alloc | apply pw_below_drewN | apply below_drew1) | exact HB.out)⟩⟩
          · replace c13 := Bool.eq_false_iff.mpr c13
            subst c13
            have H1 : ((text_Check.f kj2 22 a0).bind fun t212 => (if t212 = true then ((text_Check.f kj2 12 a0).bind fun t213 => (gantletlaw14_TextFront.j1 kj2 a0 a1 (!t213))) else (gantletlaw14_TextFront.j1 kj2 a0 a1 false))) = some r := by rw [if_neg (show ¬ (false = true) by decide)] at H; exact H
            clear H
            have H := H1
            clear H1
            replace H := Option.bind_eq_some_iff.mp H
            obtain ⟨t212, A240, H⟩ := H
            replace H : (if t212 = true then ((text_Check.f kj2 12 a0).bind fun t213 => (gantletlaw14_TextFront.j1 kj2 a0 a1 (!t213))) else (gantletlaw14_TextFront.j1 kj2 a0 a1 false)) = some r := H
            have A24 := Aside0.mk A240
            clear A240
            by_cases c25 : t212 = true
            · subst c25
              have H1 : ((text_Check.f kj2 12 a0).bind fun t213 => (gantletlaw14_TextFront.j1 kj2 a0 a1 (!t213))) = some r := by rw [if_pos rfl] at H; exact H
              clear H
              have H := H1
              clear H1
              replace H := Option.bind_eq_some_iff.mp H
              obtain ⟨t213, A260, H⟩ := H
              replace H : (gantletlaw14_TextFront.j1 kj2 a0 a1 (!t213)) = some r := H
              have A26 := Aside0.mk A260
              clear A260
              have H' := Aside0.mk H
              clear H
              go_wp2_with (first | ((with_reducible refine gate_callee (f := 12) rfl ?_); refine goesL_ (some 17) rfl rfl Try.func12 (by kernel_rfl) rfl #[.int .i64 19, .string a0] rfl (by (try simp only [List.map_toArray, List.map_cons, List.map_nil]); first | done | rfl | (simp only [List.length_drop, List.length_take]; rfl)) ?_; (with_reducible refine (text_Check.calls kj2 19 a0 false _ A12.out).mono ?_); rintro e w27 ⟨rfl, hb⟩; refine ⟨_, rfl, ?_⟩; have n0_ := Aside0.mk (below_step (by repeat (first | (with_reducible first | exact HB.out | apply below_alloc | apply pw_below_drewN | apply below_drew1) | exact HB.out)) hb); clear HB; have HB := n0_; clear n0_; (try clear hb); (try clear hb2); (try clear hk); (try clear hi)) | (go_at_call 12; (with_reducible refine (text_Check.calls kj2 22 a0 true _ A24.out).mono ?_); rintro e w28 ⟨rfl, hb⟩; have n0_ := Aside0.mk (below_step (by repeat (first | (with_reducible first | exact HB.out | apply below_alloc | apply pw_below_drewN | apply below_drew1) | exact HB.out)) hb); clear HB; have HB := n0_; clear n0_; (try clear hb); (try clear hb2); (try clear hk); (try clear hi)) | (go_at_call 12; (with_reducible refine (text_Check.calls kj2 12 a0 t213 _ A26.out).mono ?_); rintro e w29 ⟨rfl, hb⟩; have n0_ := Aside0.mk (below_step (by repeat (first | (with_reducible first | exact HB.out | apply below_alloc | apply pw_below_drewN | apply below_drew1) | exact HB.out)) hb); clear HB; have HB := n0_; clear n0_; (try clear hb); (try clear hb2); (try clear hk); (try clear hi)))
              go_meet
              case rel => exact ⟨_, (!t213), (by first | rfl | (simp; done) | (simp [*]; done)), H', ⟨by have := HJ2.out; first | omega | exact Nat.le_refl _⟩, ⟨by repeat (first | (with_reducible first | exact HB.out | apply below_alloc | apply pw_below_drewN | apply below_drew1) | exact HB.out)⟩⟩
            · replace c25 := Bool.eq_false_iff.mpr c25
              subst c25
              have H1 : (gantletlaw14_TextFront.j1 kj2 a0 a1 false) = some r := by rw [if_neg (show ¬ (false = true) by decide)] at H; exact H
              clear H
              have H := H1
              clear H1
              have H' := Aside0.mk H
              clear H
              go_wp2_with (first | ((with_reducible refine gate_callee (f := 12) rfl ?_); refine goesL_ (some 17) rfl rfl Try.func12 (by kernel_rfl) rfl #[.int .i64 19, .string a0] rfl (by (try simp only [List.map_toArray, List.map_cons, List.map_nil]); first | done | rfl | (simp only [List.length_drop, List.length_take]; rfl)) ?_; (with_reducible refine (text_Check.calls kj2 19 a0 false _ A12.out).mono ?_); rintro e w30 ⟨rfl, hb⟩; refine ⟨_, rfl, ?_⟩; have n0_ := Aside0.mk (below_step (by repeat (first | (with_reducible first | exact HB.out | apply below_alloc | apply pw_below_drewN | apply below_drew1) | exact HB.out)) hb); clear HB; have HB := n0_; clear n0_; (try clear hb); (try clear hb2); (try clear hk); (try clear hi)) | (go_at_call 12; (with_reducible refine (text_Check.calls kj2 22 a0 false _ A24.out).mono ?_); rintro e w31 ⟨rfl, hb⟩; have n0_ := Aside0.mk (below_step (by repeat (first | (with_reducible first | exact HB.out | apply below_alloc | apply pw_below_drewN | apply below_drew1) | exact HB.out)) hb); clear HB; have HB := n0_; clear n0_; (try clear hb); (try clear hb2); (try clear hk); (try clear hi)))
              go_meet
              case rel => exact ⟨_, (false), (by first | rfl | (simp; done) | (simp [*]; done)), H', ⟨by have := HJ2.out; first | omega | exact Nat.le_refl _⟩, ⟨by repeat (first | (with_reducible first | exact HB.out | apply below_alloc | apply pw_below_drewN | apply below_drew1) | exact HB.out)⟩⟩
        case rest =>
          clear HC11
          try clear c1
          try clear c2
          try clear p2
          try clear c5
          try clear c6
          try clear c8
          try clear c12
          try clear c13
          try clear c15
          try clear c25
          try clear p2
          obtain ⟨kq, x31_10, rfl, HA, HJ10, HB⟩ := hcut
          cases kq with
          | zero => exact absurd HA.out (by simp [gantletlaw14_TextFront.j1])
          | succ kj10 =>
            have H := HA.out
            clear HA
            simp only [gantletlaw14_TextFront.j1] at H
            by_cases c32 : x31_10 = true
            · subst c32
              have H1 : (none) = some r := by rw [if_pos rfl] at H; exact H
              clear H
              have H := H1
              clear H1
              exact absurd H (by simp)
            · replace c32 := Bool.eq_false_iff.mpr c32
              subst c32
              have H1 : ((text_Check.f kj10 12 a0).bind fun t214 => (if t214 = true then (if a1 < 0 then (gantletlaw14_TextFront.j2 kj10 a0 a1 true) else (gantletlaw14_TextFront.j2 kj10 a0 a1 (decide (a1 > (a0.size : Int))))) else (gantletlaw14_TextFront.j2 kj10 a0 a1 true))) = some r := by rw [if_neg (show ¬ (false = true) by decide)] at H; exact H
              clear H
              have H := H1
              clear H1
              have HC33 := Aside0.mk H
              clear H
              go_upto_region 5 with (fail)
              go_cut [44] (fun v44 wc => ∃ (kq : Nat) (x44_32 : Bool), v44 = .bool x44_32 ∧ Aside0 (gantletlaw14_TextFront.j2 kq a0 a1 x44_32 = some r) ∧ Aside0 (kq ≤ kj10) ∧ Aside0 (Below w.heap.size w wc))
              case first =>
                have H := HC33.out
                clear HC33
                replace H := Option.bind_eq_some_iff.mp H
                obtain ⟨t214, A340, H⟩ := H
                replace H : (if t214 = true then (if a1 < 0 then (gantletlaw14_TextFront.j2 kj10 a0 a1 true) else (gantletlaw14_TextFront.j2 kj10 a0 a1 (decide (a1 > (a0.size : Int))))) else (gantletlaw14_TextFront.j2 kj10 a0 a1 true)) = some r := H
                have A34 := Aside0.mk A340
                clear A340
                by_cases c35 : t214 = true
                · subst c35
                  have H1 : (if a1 < 0 then (gantletlaw14_TextFront.j2 kj10 a0 a1 true) else (gantletlaw14_TextFront.j2 kj10 a0 a1 (decide (a1 > (a0.size : Int))))) = some r := by rw [if_pos rfl] at H; exact H
                  clear H
                  have H := H1
                  clear H1
                  by_cases c36 : a1 < 0
                  · rw [if_pos c36] at H
                    have c36b0 : decide (a1 < 0) = true := decide_eq_true c36
                    clear c36
                    (first | rw [c36b0] | (simp only [i64_w, i32_w]; rw [c36b0]) | skip)
                    have H' := Aside0.mk H
                    clear H
                    go_wp2_with (first | ((with_reducible refine gate_callee (f := 12) rfl ?_); refine goesL_ (some 33) rfl rfl Try.func12 (by kernel_rfl) rfl #[.int .i64 12, .string a0] rfl (by (try simp only [List.map_toArray, List.map_cons, List.map_nil]); first | done | rfl | (simp only [List.length_drop, List.length_take]; rfl)) ?_; (with_reducible refine (text_Check.calls kj10 12 a0 true _ A34.out).mono ?_); rintro e w37 ⟨rfl, hb⟩; refine ⟨_, rfl, ?_⟩; have n0_ := Aside0.mk (below_step (by repeat (first | (with_reducible first | exact HB.out | apply below_alloc | apply pw_below_drewN | apply below_drew1) | exact HB.out)) hb); clear HB; have HB := n0_; clear n0_; (try clear hb); (try clear hb2); (try clear hk); (try clear hi)))
                    go_meet
                    case rel => exact ⟨_, (true), (by first | rfl | (simp; done) | (simp [*]; done)), H', ⟨by have := HJ2.out; have := HJ10.out; first | omega | exact Nat.le_refl _⟩, ⟨by repeat (first | (with_reducible first | exact HB.out | apply below_alloc | apply pw_below_drewN | apply below_drew1) | exact HB.out)⟩⟩
                  · rw [if_neg c36] at H
                    have c36b0 : decide (a1 < 0) = false := decide_eq_false c36
                    clear c36
                    (first | rw [c36b0] | (simp only [i64_w, i32_w]; rw [c36b0]) | skip)
                    have H' := Aside0.mk H
                    clear H
                    go_wp2_with (first | ((with_reducible refine gate_callee (f := 12) rfl ?_); refine goesL_ (some 33) rfl rfl Try.func12 (by kernel_rfl) rfl #[.int .i64 12, .string a0] rfl (by (try simp only [List.map_toArray, List.map_cons, List.map_nil]); first | done | rfl | (simp only [List.length_drop, List.length_take]; rfl)) ?_; (with_reducible refine (text_Check.calls kj10 12 a0 true _ A34.out).mono ?_); rintro e w38 ⟨rfl, hb⟩; refine ⟨_, rfl, ?_⟩; have n0_ := Aside0.mk (below_step (by repeat (first | (with_reducible first | exact HB.out | apply below_alloc | apply pw_below_drewN | apply below_drew1) | exact HB.out)) hb); clear HB; have HB := n0_; clear n0_; (try clear hb); (try clear hb2); (try clear hk); (try clear hi)))
                    go_meet
                    case rel => exact ⟨_, (decide (a1 > (a0.size : Int))), (by first | rfl | (simp; done) | (simp [*]; done)), H', ⟨by have := HJ2.out; have := HJ10.out; first | omega | exact Nat.le_refl _⟩, ⟨by repeat (first | (with_reducible first | exact HB.out | apply below_alloc | apply pw_below_drewN | apply below_drew1) | exact HB.out)⟩⟩
                · replace c35 := Bool.eq_false_iff.mpr c35
                  subst c35
                  have H1 : (gantletlaw14_TextFront.j2 kj10 a0 a1 true) = some r := by rw [if_neg (show ¬ (false = true) by decide)] at H; exact H
                  clear H
                  have H := H1
                  clear H1
                  have H' := Aside0.mk H
                  clear H
                  go_wp2_with (first | ((with_reducible refine gate_callee (f := 12) rfl ?_); refine goesL_ (some 33) rfl rfl Try.func12 (by kernel_rfl) rfl #[.int .i64 12, .string a0] rfl (by (try simp only [List.map_toArray, List.map_cons, List.map_nil]); first | done | rfl | (simp only [List.length_drop, List.length_take]; rfl)) ?_; (with_reducible refine (text_Check.calls kj10 12 a0 false _ A34.out).mono ?_); rintro e w39 ⟨rfl, hb⟩; refine ⟨_, rfl, ?_⟩; have n0_ := Aside0.mk (below_step (by repeat (first | (with_reducible first | exact HB.out | apply below_alloc | apply pw_below_drewN | apply below_drew1) | exact HB.out)) hb); clear HB; have HB := n0_; clear n0_; (try clear hb); (try clear hb2); (try clear hk); (try clear hi)))
                  go_meet
                  case rel => exact ⟨_, (true), (by first | rfl | (simp; done) | (simp [*]; done)), H', ⟨by have := HJ2.out; have := HJ10.out; first | omega | exact Nat.le_refl _⟩, ⟨by repeat (first | (with_reducible first | exact HB.out | apply below_alloc | apply pw_below_drewN | apply below_drew1) | exact HB.out)⟩⟩
              case rest =>
                clear HC33
                try clear c1
                try clear c2
                try clear p2
                try clear c3
                try clear c5
                try clear c6
                try clear c8
                try clear c12
                try clear c13
                try clear c15
                try clear c25
                try clear c32
                try clear c35
                try clear c36
                try clear c36b0
                try clear p2
                obtain ⟨kq, x44_32, rfl, HA, HJ32, HB⟩ := hcut
                cases kq with
                | zero => exact absurd HA.out (by simp [gantletlaw14_TextFront.j2])
                | succ kj32 =>
                  have H := HA.out
                  clear HA
                  simp only [gantletlaw14_TextFront.j2] at H
                  by_cases c40 : x44_32 = true
                  · subst c40
                    have H1 : (some true) = some r := by rw [if_pos rfl] at H; exact H
                    clear H
                    have H := H1
                    clear H1
                    obtain rfl := Option.some.inj H
                    go_wp2
                    go_ret
                    exact ⟨by first | rfl | (simp [errW_none, errW_some] <;> rfl) | (simp [*, errW_none, errW_some] <;> rfl), by repeat (first | (with_reducible first | exact HB.out | apply below_alloc | apply pw_below_drewN | apply below_drew1) | exact HB.out)⟩
                  · replace c40 := Bool.eq_false_iff.mpr c40
                    subst c40
                    have H1 : ((text_Start.f 12 (a0.size : Int)).bind fun bt215 => (gantletlaw14_TextFront.l0 kj32 a0 a1 bt215.2.2.2.2.2 0 bt215.1 bt215.2.1 bt215.2.2.1 bt215.2.2.2.1 bt215.2.2.2.2.1)) = some r := by rw [if_neg (show ¬ (false = true) by decide)] at H; exact H
                    clear H
                    have H := H1
                    clear H1
                    replace H := Option.bind_eq_some_iff.mp H
                    obtain ⟨⟨t215, t216, t217, t218, t219, t220⟩, A410, H⟩ := H
                    replace H : (gantletlaw14_TextFront.l0 kj32 a0 a1 t220 0 t215 t216 t217 t218 t219) = some r := H
                    have A41 := Aside0.mk A410
                    clear A410
                    have H' := Aside0.mk H
                    clear H
                    go_wp2_with (first | ((with_reducible refine gate_callee (f := 10) rfl ?_); refine goesL_ (some 48) rfl rfl Try.func10 (by kernel_rfl) rfl #[.int .i64 12, .int .i64 (a0.size : Int)] rfl (by (try simp only [List.map_toArray, List.map_cons, List.map_nil]); first | done | rfl | (simp only [List.length_drop, List.length_take]; rfl)) ?_; (with_reducible refine (text_Start.calls 12 (a0.size : Int) t215 t216 t217 t218 t219 t220 _ A41.out).mono ?_); rintro e w42 ⟨rfl, hb⟩; refine ⟨_, rfl, ?_⟩; have n0_ := Aside0.mk (below_step (by repeat (first | (with_reducible first | exact HB.out | apply below_alloc | apply pw_below_drewN | apply below_drew1) | exact HB.out)) hb); clear HB; have HB := n0_; clear n0_; (try clear hb); (try clear hb2); (try clear hk); (try clear hi)) | ((with_reducible refine gate_dst (N := 5) rfl ?_); (try (refine gate_guard (by rfl) ?_; dsimp only)); refine box_event ?hg (N := 5) ?hd (cs := #[.int .i64 0, .int .i64 0, .int .i64 0, .int .u8 0, .int .u8 0]) (t := 25) ?hr ?_; (case hd => rfl); (case hg => rfl); (case hr => first | (go_simp; done) | (go_simp; rfl)); intro gb221 hg w43 hbox hb; have n0_ := Aside0.mk (below_step (by repeat (first | (with_reducible first | exact HB.out | apply below_alloc | apply pw_below_drewN | apply below_drew1) | exact HB.out)) hb); have n1_ := Aside0.mk (hbox); have n2_ := Aside0.mk ((by rw [hg]; exact (below_size (by repeat (first | (with_reducible first | exact HB.out | apply below_alloc | apply pw_below_drewN | apply below_drew1) | exact HB.out))) : w.heap.size ≤ gb221)); have n3_ := Aside0.mk ((by rw [hg]; exact (below_size (by repeat (first | (with_reducible first | exact HB.out | apply below_alloc | apply pw_below_drewN | apply below_drew1) | exact HB.out))) : w.heap.size ≤ gb221)); clear HB; have HB := n0_; have BK221 := n1_; have GW221 := n2_; have GE221 := n3_; clear n0_ n1_ n2_ n3_; clear hb hbox hg; have hcz44_0 : w43.cell? ⟨gb221, 0, none⟩ = some (.int .i64 0) := (blk_cell BK221.out 0).trans rfl; have hcz44_1 : w43.cell? ⟨gb221, 1, none⟩ = some (.int .i64 0) := (blk_cell BK221.out 1).trans rfl; have hcz44_2 : w43.cell? ⟨gb221, 2, none⟩ = some (.int .i64 0) := (blk_cell BK221.out 2).trans rfl; have hcz44_3 : w43.cell? ⟨gb221, 3, none⟩ = some (.int .u8 0) := (blk_cell BK221.out 3).trans rfl; have hcz44_4 : w43.cell? ⟨gb221, 4, none⟩ = some (.int .u8 0) := (blk_cell BK221.out 4).trans rfl; have hfz44_0 := blk_frozen BK221.out 0; have hfz44_1 := blk_frozen BK221.out 1; have hfz44_2 := blk_frozen BK221.out 2; have hfz44_3 := blk_frozen BK221.out 3; have hfz44_4 := blk_frozen BK221.out 4))
                    go_loopg [6, 7] kj32 (fun kq v6 v7 w' => ∃ (x6_4 : Bool) (x7_4 : Int) (x222000_4 : Int) (x222001_4 : Int) (x222002_4 : Int) (x222003_4 : Int) (x222004_4 : Int), v6 = .bool x6_4 ∧ v7 = .int .i64 x7_4 ∧ Aside0 (gantletlaw14_TextFront.l0 kq a0 a1 x6_4 x7_4 x222000_4 x222001_4 x222002_4 x222003_4 x222004_4 = some r) ∧ Aside0 (kq ≤ kj32) ∧ Aside0 (w'.heap[gb221]? = some (.cells #[.int .i64 x222000_4, .int .i64 x222001_4, .int .i64 x222002_4, .int .u8 x222003_4, .int .u8 x222004_4] 25 (0, 0))) ∧ Aside0 (Below w.heap.size w w'))
                    case atStart => exact ⟨(t220), (0), (t215), (t216), (t217), (t218), (t219), (by first | rfl | (simp; done) | (simp [*]; done)), (by first | rfl | (simp; done) | (simp [*]; done)), H', ⟨Nat.le_refl _⟩, ⟨by (with_reducible repeat (first | refine blk_drewN ?_ _ | refine blk_drew ?_ | refine blk_alloc ?_ _)); refine blk_put (cs := #[.int .i64 t215, .int .i64 t216, .int .i64 t217, .int .u8 t218, .int .u8 0]) ?_ 4 _ rfl; (with_reducible repeat (first | refine blk_drewN ?_ _ | refine blk_drew ?_ | refine blk_alloc ?_ _)); refine blk_put (cs := #[.int .i64 t215, .int .i64 t216, .int .i64 t217, .int .u8 0, .int .u8 0]) ?_ 3 _ rfl; (with_reducible repeat (first | refine blk_drewN ?_ _ | refine blk_drew ?_ | refine blk_alloc ?_ _)); refine blk_put (cs := #[.int .i64 t215, .int .i64 t216, .int .i64 0, .int .u8 0, .int .u8 0]) ?_ 2 _ rfl; (with_reducible repeat (first | refine blk_drewN ?_ _ | refine blk_drew ?_ | refine blk_alloc ?_ _)); refine blk_put (cs := #[.int .i64 t215, .int .i64 0, .int .i64 0, .int .u8 0, .int .u8 0]) ?_ 1 _ rfl; (with_reducible repeat (first | refine blk_drewN ?_ _ | refine blk_drew ?_ | refine blk_alloc ?_ _)); refine blk_put (cs := #[.int .i64 0, .int .i64 0, .int .i64 0, .int .u8 0, .int .u8 0]) ?_ 0 _ rfl; (with_reducible repeat (first | refine blk_drewN ?_ _ | refine blk_drew ?_ | refine blk_alloc ?_ _)); exact BK221.out⟩, ⟨by repeat (first | (with_reducible first | exact HB.out | apply below_alloc | apply pw_below_drewN | apply below_drew1 | refine below_set ?_ GE221.out) | exact HB.out)⟩⟩
                    case round =>
                      clear H'
                      try clear c1
                      try clear c2
                      try clear p2
                      try clear c3
                      try clear c4
                      try clear c5
                      try clear c6
                      try clear c8
                      try clear c10
                      try clear c12
                      try clear c13
                      try clear c15
                      try clear c25
                      try clear c32
                      try clear c35
                      try clear c36
                      try clear c36b0
                      try clear c40
                      try clear hcz44_0
                      try clear hcz44_1
                      try clear hcz44_2
                      try clear hcz44_3
                      try clear hcz44_4
                      try clear hfz44_0
                      try clear hfz44_1
                      try clear hfz44_2
                      try clear hfz44_3
                      try clear hfz44_4
                      try clear p2
                      obtain ⟨x6_4, x7_4, x222000_4, x222001_4, x222002_4, x222003_4, x222004_4, rfl, rfl, HA, HK4, BK221, HB⟩ := hrel
                      cases gk with
                      | zero => exact absurd HA.out (by simp [gantletlaw14_TextFront.l0])
                      | succ k4 =>
                        have H := HA.out
                        clear HA
                        simp only [gantletlaw14_TextFront.l0] at H
                        by_cases c45 : x6_4 = true
                        · subst c45
                          have H1 : (if x7_4 < a1 then (if 0 ≤ x7_4 then (if x7_4 < (a0.size : Int) then ((text_State_Push.f k4 x222000_4 x222001_4 x222002_4 x222003_4 x222004_4 (bt a0 x7_4)).bind fun bt222 => (gantletlaw14_TextFront.l0 k4 a0 a1 bt222.2.2.2.2.2 (wrap64 (x7_4 + 1)) bt222.1 bt222.2.1 bt222.2.2.1 bt222.2.2.2.1 bt222.2.2.2.2.1)) else (none)) else (none)) else (some true)) = some r := by rw [if_pos rfl] at H; exact H
                          clear H
                          have H := H1
                          clear H1
                          by_cases c46 : x7_4 < a1
                          · rw [if_pos c46] at H
                            have c46b0 : decide (x7_4 < a1) = true := decide_eq_true c46
                            clear c46
                            by_cases c47 : 0 ≤ x7_4
                            · rw [if_pos c47] at H
                              have c47b0 : decide (0 ≤ x7_4) = true := decide_eq_true c47
                              clear c47
                              by_cases c48 : x7_4 < (a0.size : Int)
                              · rw [if_pos c48] at H
                                have c48b0 : decide (x7_4 < (a0.size : Int)) = true := decide_eq_true c48
                                clear c48
                                replace H := Option.bind_eq_some_iff.mp H
                                obtain ⟨⟨t222, t223, t224, t225, t226, t227⟩, A500, H⟩ := H
                                replace H : (gantletlaw14_TextFront.l0 k4 a0 a1 t227 (wrap64 (x7_4 + 1)) t222 t223 t224 t225 t226) = some r := H
                                have A50 := Aside0.mk A500
                                clear A500
                                have H' := Aside0.mk H
                                clear H
                                try go_wp2
                                have n0_ := Aside0.mk (blk_drew BK221.out)
                                have n1_ := Aside0.mk (below_drew1 HB.out)
                                clear BK221
                                clear HB
                                have BK221 := n0_
                                have HB := n1_
                                clear n0_ n1_
                                have p49 : 0 ≤ (x7_4 : Int) := of_decide_eq_true (by first | (with_reducible assumption) | assumption)
                                have q49 : x7_4 < (a0.size : Int) := of_decide_eq_true (by first | (with_reducible assumption) | assumption)
                                have hx49 := bt_at a0 x7_4
                                replace p49 := eq_true p49
                                replace q49 := eq_true q49
                                refine start_ (n := 10) (S := fun w' => w'.cell? ⟨gb221, 0, none⟩ = some (.int .i64 x222000_4) ∧ w'.cell? ⟨gb221, 1, none⟩ = some (.int .i64 x222001_4) ∧ w'.cell? ⟨gb221, 2, none⟩ = some (.int .i64 x222002_4) ∧ w'.cell? ⟨gb221, 3, none⟩ = some (.int .u8 x222003_4) ∧ w'.cell? ⟨gb221, 4, none⟩ = some (.int .u8 x222004_4)) (ds := [8]) #[false, false, false, false, false, false, false, false, false, false] (by kernel_rfl) rfl rfl ⟨(blk_cell BK221.out 0).trans rfl, (blk_cell BK221.out 1).trans rfl, (blk_cell BK221.out 2).trans rfl, (blk_cell BK221.out 3).trans rfl, (blk_cell BK221.out 4).trans rfl⟩ (fun hHeld => ?_); refine with_tabW gantletlaw14_TextFront.tab11 gantletlaw14_TextFront.bits11 (fun HT_ HW_ => ?_)
                                generalize wr.drew = w51 at BK221 HB hHeld ⊢
                                refine pure_ (i := 1) (N := some 61) (v := ?_) (a' := ?_) #[false, true, false, false, false, false, false, false, false, false] rfl rfl (any_of HT_.out (by kernel_rfl)) (fun _ _ _ h => h) (Or.inl ⟨by rfl, ?_⟩) ?_ ?_
                                rotate_left
                                · intro w'
                                  go_simp
                                  with_reducible rfl
                                rotate_left
                                · simp only [Act.put, List.setIfInBounds_toArray, List.set_cons_zero, List.set_cons_succ, i64_w, i32_w]
                                  rfl
                                refine pure_ (i := 2) (N := some 62) (v := ?_) (a' := ?_) #[false, true, true, false, false, false, false, false, false, false] rfl rfl (any_of HT_.out (by kernel_rfl)) (fun _ _ _ h => h) (Or.inl ⟨by rfl, ?_⟩) ?_ ?_
                                rotate_left
                                · intro w'
                                  go_simp
                                  with_reducible rfl
                                rotate_left
                                · simp only [Act.put, List.setIfInBounds_toArray, List.set_cons_zero, List.set_cons_succ, i64_w, i32_w]
                                  rfl
                                refine take_ (i := 0) (N := some 60) (v := ?_) (a' := ?_) #[true, true, true, false, false, false, false, false, false, false] rfl rfl (take_ofW HT_.out HW_.out (by kernel_rfl)) (fun _ _ _ h => h) (Or.inl ⟨by rfl, ?_⟩) hHeld ?_ ?_
                                rotate_left
                                · rintro w' ⟨s0, s1, s2, s3, s4⟩
                                  go_simp
                                  with_reducible rfl
                                rotate_left
                                · simp only [Act.put, List.setIfInBounds_toArray, List.set_cons_zero, List.set_cons_succ, i64_w, i32_w]
                                  rfl
                                refine take_ (i := 3) (N := some 63) (v := ?_) (a' := ?_) #[true, true, true, true, false, false, false, false, false, false] rfl rfl (take_ofW HT_.out HW_.out (by kernel_rfl)) (fun _ _ _ h => h) (Or.inl ⟨by rfl, ?_⟩) hHeld ?_ ?_
                                rotate_left
                                · rintro w' ⟨s0, s1, s2, s3, s4⟩
                                  go_simp
                                  with_reducible rfl
                                rotate_left
                                · simp only [Act.put, List.setIfInBounds_toArray, List.set_cons_zero, List.set_cons_succ, i64_w, i32_w]
                                  rfl
                                refine one_ (i := 4) (N := some 64) #[true, true, true, true, true, false, false, false, false, false] rfl rfl (one_of HT_.out (by kernel_rfl)) (by decide) (fun K hK => ?_)
                                refine goes_ Try.func11 (by kernel_rfl) rfl #[.agg #[.int .i64 x222000_4, .int .i64 x222001_4, .int .i64 x222002_4, .int .u8 x222003_4, .int .u8 x222004_4], .int .u8 (bt a0 x7_4)] (by rfl) rfl rfl (by (try simp only [List.map_toArray, List.map_cons, List.map_nil]); first | done | rfl | (simp only [List.length_drop, List.length_take]; rfl)) ?_
                                with_reducible refine (text_State_Push.calls k4 x222000_4 x222001_4 x222002_4 x222003_4 x222004_4 (bt a0 x7_4) t222 t223 t224 t225 t226 t227 _ A50.out).mono ?_
                                rintro e w52 ⟨rfl, hb⟩
                                refine ⟨_, rfl, ?_⟩
                                have n0_ := Aside0.mk (blk_below (g := gb221) (o := .cells #[.int .i64 x222000_4, .int .i64 x222001_4, .int .i64 x222002_4, .int .u8 x222003_4, .int .u8 x222004_4] 25 (0, 0)) (by (with_reducible repeat (first | refine blk_drewN ?_ _ | refine blk_drew ?_ | refine blk_alloc ?_ _)); exact BK221.out) hb)
                                have n1_ := Aside0.mk (below_step (by repeat (first | (with_reducible first | exact HB.out | apply below_alloc | apply pw_below_drewN | apply below_drew1 | refine below_set ?_ GE221.out) | exact HB.out)) hb)
                                clear BK221
                                clear HB
                                have BK221 := n0_
                                have HB := n1_
                                clear n0_ n1_
                                (try clear hb)
                                (try clear hb2)
                                (try clear hk)
                                (try clear hi)
                                refine hK.out _ _ ⟨(blk_cell BK221.out 0).trans rfl, (blk_cell BK221.out 1).trans rfl, (blk_cell BK221.out 2).trans rfl, (blk_cell BK221.out 3).trans rfl, (blk_cell BK221.out 4).trans rfl⟩ (fun hHeld => ?_)
                                clear hK K
                                refine norm_ (a' := ?_) ?_ ?_
                                rotate_left
                                · show Act.put _ (some 64) _ = _
                                  simp only [Act.put, List.setIfInBounds_toArray, List.set_cons_zero, List.set_cons_succ, i64_w, i32_w]
                                  rfl
                                refine pure_ (i := 5) (N := some 59) (v := ?_) (a' := ?_) #[true, true, true, true, true, true, false, false, false, false] rfl rfl (any_of HT_.out (by kernel_rfl)) (fun _ _ _ h => h) (Or.inl ⟨by rfl, ?_⟩) ?_ ?_
                                rotate_left
                                · intro w'
                                  go_simp
                                  with_reducible rfl
                                rotate_left
                                · simp only [Act.put, List.setIfInBounds_toArray, List.set_cons_zero, List.set_cons_succ, i64_w, i32_w]
                                  rfl
                                refine pure_ (i := 6) (N := some 65) (v := ?_) (a' := ?_) #[true, true, true, true, true, true, true, false, false, false] rfl rfl (any_of HT_.out (by kernel_rfl)) (fun _ _ _ h => h) (Or.inl ⟨by rfl, ?_⟩) ?_ ?_
                                rotate_left
                                · intro w'
                                  go_simp
                                  with_reducible rfl
                                rotate_left
                                · simp only [Act.put, List.setIfInBounds_toArray, List.set_cons_zero, List.set_cons_succ, i64_w, i32_w]
                                  rfl
                                refine pure_ (i := 7) (N := some 66) (v := ?_) (a' := ?_) #[true, true, true, true, true, true, true, true, false, false] rfl rfl (any_of HT_.out (by kernel_rfl)) (fun _ _ _ h => h) (Or.inl ⟨by rfl, ?_⟩) ?_ ?_
                                rotate_left
                                · intro w'
                                  go_simp
                                  with_reducible rfl
                                rotate_left
                                · simp only [Act.put, List.setIfInBounds_toArray, List.set_cons_zero, List.set_cons_succ, i64_w, i32_w]
                                  rfl
                                refine last_ (i := 8) (N := none) #[true, true, true, true, true, true, true, true, true, false] rfl rfl (one_of HT_.out (by kernel_rfl)) (by decide) (fun K hK => ?_)
                                have hs53 : w52.cell? ⟨gb221, 0, none⟩ = some (.int .i64 x222000_4) := (blk_cell BK221.out 0).trans rfl
                                have hfs53 := blk_frozen BK221.out 0
                                have hs54 : w52.cell? ⟨gb221, 1, none⟩ = some (.int .i64 x222001_4) := (blk_cell BK221.out 1).trans rfl
                                have hfs54 := blk_frozen BK221.out 1
                                have hs55 : w52.cell? ⟨gb221, 2, none⟩ = some (.int .i64 x222002_4) := (blk_cell BK221.out 2).trans rfl
                                have hfs55 := blk_frozen BK221.out 2
                                have hs56 : w52.cell? ⟨gb221, 3, none⟩ = some (.int .u8 x222003_4) := (blk_cell BK221.out 3).trans rfl
                                have hfs56 := blk_frozen BK221.out 3
                                have hs57 : w52.cell? ⟨gb221, 4, none⟩ = some (.int .u8 x222004_4) := (blk_cell BK221.out 4).trans rfl
                                have hfs57 := blk_frozen BK221.out 4
                                refine skip_ (w1 := ?_) (by rfl) rfl ?_ ?_
                                rotate_left
                                · go_simp
                                  rfl
                                refine hK.out _ _ ?_
                                clear hK K
                                refine pure_ (i := 9) (N := some 6) (v := ?_) (a' := ?_) #[true, true, true, true, true, true, true, true, true, true] rfl rfl (any_of HT_.out (by kernel_rfl)) (fun _ _ _ h => h) (Or.inl ⟨by rfl, ?_⟩) ?_ ?_
                                rotate_left
                                · intro w'
                                  go_simp
                                  with_reducible rfl
                                rotate_left
                                · simp only [Act.put, List.setIfInBounds_toArray, List.set_cons_zero, List.set_cons_succ, i64_w, i32_w]
                                  rfl
                                refine done_ (done_of HT_.out (by kernel_rfl)) ?_
                                try go_wp2
                                go_roundg k4
                                case measure => have := HJ2.out; have := HJ10.out; have := HJ32.out; have := HK4.out; omega
                                case rel => exact ⟨(t227), (wrap64 (x7_4 + 1)), (t222), (t223), (t224), (t225), (t226), (by first | rfl | (simp; done) | (simp [*]; done)), (by first | rfl | (simp; done) | (simp [*]; done)), H', ⟨by have := HJ2.out; have := HJ10.out; have := HJ32.out; have := HK4.out; omega⟩, ⟨by (with_reducible repeat (first | refine blk_drewN ?_ _ | refine blk_drew ?_ | refine blk_alloc ?_ _)); refine blk_put (cs := #[.int .i64 t222, .int .i64 t223, .int .i64 t224, .int .u8 t225, .int .u8 x222004_4]) ?_ 4 _ rfl; (with_reducible repeat (first | refine blk_drewN ?_ _ | refine blk_drew ?_ | refine blk_alloc ?_ _)); refine blk_put (cs := #[.int .i64 t222, .int .i64 t223, .int .i64 t224, .int .u8 x222003_4, .int .u8 x222004_4]) ?_ 3 _ rfl; (with_reducible repeat (first | refine blk_drewN ?_ _ | refine blk_drew ?_ | refine blk_alloc ?_ _)); refine blk_put (cs := #[.int .i64 t222, .int .i64 t223, .int .i64 x222002_4, .int .u8 x222003_4, .int .u8 x222004_4]) ?_ 2 _ rfl; (with_reducible repeat (first | refine blk_drewN ?_ _ | refine blk_drew ?_ | refine blk_alloc ?_ _)); refine blk_put (cs := #[.int .i64 t222, .int .i64 x222001_4, .int .i64 x222002_4, .int .u8 x222003_4, .int .u8 x222004_4]) ?_ 1 _ rfl; (with_reducible repeat (first | refine blk_drewN ?_ _ | refine blk_drew ?_ | refine blk_alloc ?_ _)); refine blk_put (cs := #[.int .i64 x222000_4, .int .i64 x222001_4, .int .i64 x222002_4, .int .u8 x222003_4, .int .u8 x222004_4]) ?_ 0 _ rfl; (with_reducible repeat (first | refine blk_drewN ?_ _ | refine blk_drew ?_ | refine blk_alloc ?_ _)); exact BK221.out⟩, ⟨by repeat (first | (with_reducible first | exact HB.out | apply below_alloc | apply pw_below_drewN | apply below_drew1 | refine below_set ?_ GE221.out) | exact HB.out)⟩⟩
                              · rw [if_neg c48] at H
                                exact absurd H (by simp)
                            · rw [if_neg c47] at H
                              exact absurd H (by simp)
                          · rw [if_neg c46] at H
                            have c46b0 : decide (x7_4 < a1) = false := decide_eq_false c46
                            clear c46
                            obtain rfl := Option.some.inj H
                            go_wp2
                            go_ret
                            exact ⟨by first | rfl | (simp [errW_none, errW_some] <;> rfl) | (simp [*, errW_none, errW_some] <;> rfl), by repeat (first | (with_reducible first | exact HB.out | apply below_alloc | apply pw_below_drewN | apply below_drew1 | refine below_set ?_ GE221.out) | exact HB.out)⟩
                        · replace c45 := Bool.eq_false_iff.mpr c45
                          subst c45
                          have H1 : (some false) = some r := by rw [if_neg (show ¬ (false = true) by decide)] at H; exact H
                          clear H
                          have H := H1
                          clear H1
                          obtain rfl := Option.some.inj H
                          go_wp2
                          go_ret
                          exact ⟨by first | rfl | (simp [errW_none, errW_some] <;> rfl) | (simp [*, errW_none, errW_some] <;> rfl), by repeat (first | (with_reducible first | exact HB.out | apply below_alloc | apply pw_below_drewN | apply below_drew1 | refine below_set ?_ GE221.out) | exact HB.out)⟩

/-- THE ONE PURE STATEMENT of gantletlaw14_TextFront: yours. -/
def gantletlaw14_TextFront.Pure : Prop := ∀ (a0 : ByteArray) (a1 : Int), a0.size ≤ 140737488351232 → (Lit.int .i64 a1).wf = true → ∃ k, gantletlaw14_TextFront.f k a0 a1 = some true
theorem gantletlaw14_TextFront.walk (P : gantletlaw14_TextFront.Pure) (a0 : ByteArray) (a1 : Int) (w : World) (w0 : a0.size ≤ 140737488351232) (w1 : (Lit.int .i64 a1).wf = true) :
    Calls Try.prog 6 #[.string a0, .int .i64 a1] w fun e w' => e = .returned (.bool true) ∧ Below w.heap.size w w' := by
  obtain ⟨k, h⟩ := P a0 a1 w0 w1
  refine (gantletlaw14_TextFront.calls k a0 a1 true w h).mono ?_
  rintro e w' ⟨rfl, hd⟩
  exact ⟨rfl, hd⟩

end Go.Proofs.Ytjookjdpfbflkaa.PA
