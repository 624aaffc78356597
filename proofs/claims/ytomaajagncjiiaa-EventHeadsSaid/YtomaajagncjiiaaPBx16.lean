-- Written by a program of this session (print2, a turned print): not PRINTED BY print.sh
import Derived.Test.YtomaajagncjiiaaPBx0
import Derived.Test.YtomaajagncjiiaaPBx8
import Derived.Test.YtomaajagncjiiaaPBx9
import Derived.Test.YtomaajagncjiiaaPBx15
namespace Go.Proofs.Ytomaajagncjiiaa.PB
open Go.RowKit Go.Proofs.YtomaajagncjiiaaW.PrintWords Go.Proofs.YtomaajagncjiiaaW.PrintLast Go.Proofs.YtomaajagncjiiaaW.PrintMore
attribute [local go_sem] max2_int min2_int max_two min_two max_three min_three max_four min_four   -- for this text's walks alone
set_option linter.unusedVariables false
set_option linter.unusedSimpArgs false

/-! ### gantletlaw09_EventHeads: function 7 -/
mutual
def gantletlaw09_EventHeads.j0 : Nat → ByteArray → Bool → Option (Bool)
  | 0, _, _ => none
  | k + 1, x0, x16 => if x16 = true then ((gantletlaw09_awake.f k).bind fun t223 => (some t223)) else ((event_Whole.f x0 64).bind fun bt224 => (if bt224.2.1 = 0 then (gantletlaw09_EventHeads.l0 k x0 (⟨#[]⟩ : ByteArray) bt224.1 (bt224.1.length : Int) 0) else (some true)))
def gantletlaw09_EventHeads.l0 : Nat → ByteArray → ByteArray → List (S36) → Int → Int → Option (Bool)
  | 0, _, _, _, _, _ => none
  | k + 1, x0, x6, x26, x27, x28 => if x28 < x27 then (if 0 ≤ x28 then (if x28 < (x26.length : Int) then (if ((rd_T36 x26 x28).f0) = 1 then (gantletlaw09_EventHeads.j2 k x0 x6 x26 x27 x28 ((rd_T36 x26 x28).f0) (((rd_T36 x26 x28).f0) == 1) ((rd_T36 x26 x28).f0) ((rd_T36 x26 x28).f1) ((rd_T36 x26 x28).f2.f0) ((rd_T36 x26 x28).f2.f1) ((rd_T36 x26 x28).f2.f2) ((rd_T36 x26 x28).f2.f3) ((rd_T36 x26 x28).f3)) else (gantletlaw09_EventHeads.j2 k x0 x6 x26 x27 x28 ((rd_T36 x26 x28).f0) (((rd_T36 x26 x28).f0) == 2) ((rd_T36 x26 x28).f0) ((rd_T36 x26 x28).f1) ((rd_T36 x26 x28).f2.f0) ((rd_T36 x26 x28).f2.f1) ((rd_T36 x26 x28).f2.f2) ((rd_T36 x26 x28).f2.f3) ((rd_T36 x26 x28).f3))) else (none)) else (none)) else (some (x6.toList == x0.toList))
def gantletlaw09_EventHeads.j2 : Nat → ByteArray → ByteArray → List (S36) → Int → Int → Int → Bool → Int → Int → Int → Int → Bool → Int → Int → Option (Bool)
  | 0, _, _, _, _, _, _, _, _, _, _, _, _, _, _ => none
  | k + 1, x0, x6, x26, x27, x28, x33, x34, x231000, x231001, x231002, x231003, x231004, x231005, x231006 => if x34 = true then ((gantletref07_Put.f k x231002 x231003 x231004 x231005).bind fun bt231 => (if bt231.2 = 0 then (if x6.size + bt231.1.size ≤ 9223372036854775807 then (if x231001 = (wrap64 (((x6 ++ bt231.1).size : Int) - 1)) then (gantletlaw09_EventHeads.l0 k x0 (x6 ++ bt231.1) x26 x27 (wrap64 (x28 + 1))) else (none)) else (none)) else (none))) else (if x33 = 3 then ((some (([x231006] : List Int) : List Int)).bind fun y233 => (if x6.size + (strOfNums y233).size ≤ 9223372036854775807 then (gantletlaw09_EventHeads.l0 k x0 (x6 ++ (strOfNums y233)) x26 x27 (wrap64 (x28 + 1))) else (none))) else (gantletlaw09_EventHeads.l0 k x0 x6 x26 x27 (wrap64 (x28 + 1))))
end
def gantletlaw09_EventHeads.f (k : Nat) (a0 : ByteArray) : Option (Bool) := (gantletlaw09_awake.f k).bind fun t221 => (if t221 = true then ((gantletlaw09_great.f a0).bind fun t222 => (gantletlaw09_EventHeads.j0 k a0 t222)) else (gantletlaw09_EventHeads.j0 k a0 true))
theorem gantletlaw09_EventHeads.mono_l : ∀ k, (∀ y0 y1, LeO (gantletlaw09_EventHeads.j0 k y0 y1) (gantletlaw09_EventHeads.j0 (k + 1) y0 y1)) ∧ (∀ y0 y1 y2 y3 y4, LeO (gantletlaw09_EventHeads.l0 k y0 y1 y2 y3 y4) (gantletlaw09_EventHeads.l0 (k + 1) y0 y1 y2 y3 y4)) ∧ (∀ y0 y1 y2 y3 y4 y5 y6 y7 y8 y9 y10 y11 y12 y13, LeO (gantletlaw09_EventHeads.j2 k y0 y1 y2 y3 y4 y5 y6 y7 y8 y9 y10 y11 y12 y13) (gantletlaw09_EventHeads.j2 (k + 1) y0 y1 y2 y3 y4 y5 y6 y7 y8 y9 y10 y11 y12 y13))
  | 0 => ⟨fun _ _ r h => by simp [gantletlaw09_EventHeads.j0] at h, fun _ _ _ _ _ r h => by simp [gantletlaw09_EventHeads.l0] at h, fun _ _ _ _ _ _ _ _ _ _ _ _ _ _ r h => by simp [gantletlaw09_EventHeads.j2] at h⟩
  | k + 1 => by
    obtain ⟨ih0, ih1, ih2⟩ := gantletlaw09_EventHeads.mono_l k
    refine ⟨?_, ?_, ?_⟩
    · intro y0 y1
      unfold gantletlaw09_EventHeads.j0
      repeat' first
      | (with_reducible exact ih0 _ _)
      | (with_reducible exact ih1 _ _ _ _ _)
      | (with_reducible exact ih2 _ _ _ _ _ _ _ _ _ _ _ _ _ _)
      | (with_reducible exact gantletlaw09_awake.mono _)
      | (with_reducible exact gantletref07_Put.mono _ _ _ _ _)
      | (with_reducible exact LeO.refl _)
      | (with_reducible exact LeO.none _)
      | (with_reducible refine LeO.ite ?_ ?_)
      | (with_reducible refine LeO.bind ?_ (fun _ => ?_))
      | exact ih0 _ _
      | exact ih1 _ _ _ _ _
      | exact ih2 _ _ _ _ _ _ _ _ _ _ _ _ _ _
      | exact gantletlaw09_awake.mono _
      | exact gantletref07_Put.mono _ _ _ _ _
      | exact LeO.none _
      | refine LeO.ite ?_ ?_
      | refine LeO.bind ?_ (fun _ => ?_)
    · intro y0 y1 y2 y3 y4
      unfold gantletlaw09_EventHeads.l0
      repeat' first
      | (with_reducible exact ih0 _ _)
      | (with_reducible exact ih1 _ _ _ _ _)
      | (with_reducible exact ih2 _ _ _ _ _ _ _ _ _ _ _ _ _ _)
      | (with_reducible exact gantletlaw09_awake.mono _)
      | (with_reducible exact gantletref07_Put.mono _ _ _ _ _)
      | (with_reducible exact LeO.refl _)
      | (with_reducible exact LeO.none _)
      | (with_reducible refine LeO.ite ?_ ?_)
      | (with_reducible refine LeO.bind ?_ (fun _ => ?_))
      | exact ih0 _ _
      | exact ih1 _ _ _ _ _
      | exact ih2 _ _ _ _ _ _ _ _ _ _ _ _ _ _
      | exact gantletlaw09_awake.mono _
      | exact gantletref07_Put.mono _ _ _ _ _
      | exact LeO.none _
      | refine LeO.ite ?_ ?_
      | refine LeO.bind ?_ (fun _ => ?_)
    · intro y0 y1 y2 y3 y4 y5 y6 y7 y8 y9 y10 y11 y12 y13
      unfold gantletlaw09_EventHeads.j2
      repeat' first
      | (with_reducible exact ih0 _ _)
      | (with_reducible exact ih1 _ _ _ _ _)
      | (with_reducible exact ih2 _ _ _ _ _ _ _ _ _ _ _ _ _ _)
      | (with_reducible exact gantletlaw09_awake.mono _)
      | (with_reducible exact gantletref07_Put.mono _ _ _ _ _)
      | (with_reducible exact LeO.refl _)
      | (with_reducible exact LeO.none _)
      | (with_reducible refine LeO.ite ?_ ?_)
      | (with_reducible refine LeO.bind ?_ (fun _ => ?_))
      | exact ih0 _ _
      | exact ih1 _ _ _ _ _
      | exact ih2 _ _ _ _ _ _ _ _ _ _ _ _ _ _
      | exact gantletlaw09_awake.mono _
      | exact gantletref07_Put.mono _ _ _ _ _
      | exact LeO.none _
      | refine LeO.ite ?_ ?_
      | refine LeO.bind ?_ (fun _ => ?_)
theorem gantletlaw09_EventHeads.mono : ∀ a0 k, LeO (gantletlaw09_EventHeads.f k a0) (gantletlaw09_EventHeads.f (k + 1) a0) := by
  intro a0 k
  obtain ⟨ih0, ih1, ih2⟩ := gantletlaw09_EventHeads.mono_l k
  unfold gantletlaw09_EventHeads.f
  repeat' first
      | (with_reducible exact ih0 _ _)
      | (with_reducible exact ih1 _ _ _ _ _)
      | (with_reducible exact ih2 _ _ _ _ _ _ _ _ _ _ _ _ _ _)
      | (with_reducible exact gantletlaw09_awake.mono _)
      | (with_reducible exact gantletref07_Put.mono _ _ _ _ _)
      | (with_reducible exact LeO.refl _)
      | (with_reducible exact LeO.none _)
      | (with_reducible refine LeO.ite ?_ ?_)
      | (with_reducible refine LeO.bind ?_ (fun _ => ?_))
      | exact ih0 _ _
      | exact ih1 _ _ _ _ _
      | exact ih2 _ _ _ _ _ _ _ _ _ _ _ _ _ _
      | exact gantletlaw09_awake.mono _
      | exact gantletref07_Put.mono _ _ _ _ _
      | exact LeO.none _
      | refine LeO.ite ?_ ?_
      | refine LeO.bind ?_ (fun _ => ?_)
set_option maxHeartbeats 8000000 in
set_option maxRecDepth 100000 in
theorem gantletlaw09_EventHeads.calls (k : Nat) (a0 : ByteArray) (r : Bool) (w : World) (h : gantletlaw09_EventHeads.f k a0 = some r) :
    Calls Try.prog 7 #[.string a0] w fun e w' => e = .returned (.bool r) ∧ Below w.heap.size w w' := by
  have hu36 := Try.underlying36
  have hu34 := Try.underlying34
  have HB := Aside0.mk (Below.refl w.heap.size w)
  have H : ((gantletlaw09_awake.f k).bind fun t221 => (if t221 = true then ((gantletlaw09_great.f a0).bind fun t222 => (gantletlaw09_EventHeads.j0 k a0 t222)) else (gantletlaw09_EventHeads.j0 k a0 true))) = some r := h
  clear h
  have HC2 := Aside0.mk H
  clear H
  go_enter Try.func7, Try.ntmps7
  go_upto_region 1 with (fail)
  go_cut [16] (fun v16 wc => ∃ (kq : Nat) (x16_1 : Bool), v16 = .bool x16_1 ∧ Aside0 (gantletlaw09_EventHeads.j0 kq a0 x16_1 = some r) ∧ Aside0 (kq ≤ k) ∧ Aside0 (Below w.heap.size w wc))
  case first =>
    have H := HC2.out
    clear HC2
    replace H := Option.bind_eq_some_iff.mp H
    obtain ⟨t221, A30, H⟩ := H
    replace H : (if t221 = true then ((gantletlaw09_great.f a0).bind fun t222 => (gantletlaw09_EventHeads.j0 k a0 t222)) else (gantletlaw09_EventHeads.j0 k a0 true)) = some r := H
    have A3 := Aside0.mk A30
    clear A30
    by_cases c4 : t221 = true
    · subst c4
      have H1 : ((gantletlaw09_great.f a0).bind fun t222 => (gantletlaw09_EventHeads.j0 k a0 t222)) = some r := by rw [if_pos rfl] at H; exact H
      clear H
      have H := H1
      clear H1
      replace H := Option.bind_eq_some_iff.mp H
      obtain ⟨t222, A50, H⟩ := H
      replace H : (gantletlaw09_EventHeads.j0 k a0 t222) = some r := H
      have A5 := Aside0.mk A50
      clear A50
      have H' := Aside0.mk H
      clear H
      go_wp2_with (first | ((with_reducible refine gate_callee (f := 11) rfl ?_); refine goesL_ (some 11) rfl rfl Try.func11 (by kernel_rfl) rfl #[] rfl (by (try simp only [List.map_toArray, List.map_cons, List.map_nil]); first | done | rfl | (simp only [List.length_drop, List.length_take]; rfl)) ?_; (with_reducible refine (gantletlaw09_awake.calls k  true _ A3.out).mono ?_); rintro e w6 ⟨rfl, hb⟩; refine ⟨_, rfl, ?_⟩; have n0_ := Aside0.mk (below_step (by repeat (first | (with_reducible first | exact HB.out | apply below_alloc | apply pw_below_drewN | apply below_drew1) | exact HB.out)) hb); clear HB; have HB := n0_; clear n0_; (try clear hb); (try clear hb2); (try clear hk); (try clear hi)) | (go_at_call 12; (with_reducible refine (gantletlaw09_great.calls a0 t222 _ A5.out).mono ?_); rintro e w' ⟨rfl, ⟨nd, rfl⟩⟩))
      go_meet
      case rel => exact ⟨_, (t222), (by first | rfl | (simp; done) | (simp [*]; done) | (simp [show ∀ l : List UInt8, (!l.isEmpty) = (l != []) from fun l => by cases l <;> rfl]; done)), H', ⟨by first | omega | exact Nat.le_refl _⟩, ⟨by repeat (first | (with_reducible first | exact HB.out | apply below_alloc | apply pw_below_drewN | apply below_drew1) | exact HB.out)⟩⟩
    · replace c4 := Bool.eq_false_iff.mpr c4
      subst c4
      have H1 : (gantletlaw09_EventHeads.j0 k a0 true) = some r := by rw [if_neg (show ¬ (false = true) by decide)] at H; exact H
      clear H
      have H := H1
      clear H1
      have H' := Aside0.mk H
      clear H
      go_wp2_with (first | ((with_reducible refine gate_callee (f := 11) rfl ?_); refine goesL_ (some 11) rfl rfl Try.func11 (by kernel_rfl) rfl #[] rfl (by (try simp only [List.map_toArray, List.map_cons, List.map_nil]); first | done | rfl | (simp only [List.length_drop, List.length_take]; rfl)) ?_; (with_reducible refine (gantletlaw09_awake.calls k  false _ A3.out).mono ?_); rintro e w7 ⟨rfl, hb⟩; refine ⟨_, rfl, ?_⟩; have n0_ := Aside0.mk (below_step (by repeat (first | (with_reducible first | exact HB.out | apply below_alloc | apply pw_below_drewN | apply below_drew1) | exact HB.out)) hb); clear HB; have HB := n0_; clear n0_; (try clear hb); (try clear hb2); (try clear hk); (try clear hi)))
      go_meet
      case rel => exact ⟨_, (true), (by first | rfl | (simp; done) | (simp [*]; done) | (simp [show ∀ l : List UInt8, (!l.isEmpty) = (l != []) from fun l => by cases l <;> rfl]; done)), H', ⟨by first | omega | exact Nat.le_refl _⟩, ⟨by repeat (first | (with_reducible first | exact HB.out | apply below_alloc | apply pw_below_drewN | apply below_drew1) | exact HB.out)⟩⟩
  case rest =>
    clear HC2
    try clear c1
    try clear p2
    try clear c4
    try clear c7
    obtain ⟨kq, x16_1, rfl, HA, HJ1, HB⟩ := hcut
    cases kq with
    | zero => exact absurd HA.out (by simp [gantletlaw09_EventHeads.j0])
    | succ kj1 =>
      have H := HA.out
      clear HA
      simp only [gantletlaw09_EventHeads.j0] at H
      by_cases c8 : x16_1 = true
      · subst c8
        have H1 : ((gantletlaw09_awake.f kj1).bind fun t223 => (some t223)) = some r := by rw [if_pos rfl] at H; exact H
        clear H
        have H := H1
        clear H1
        replace H := Option.bind_eq_some_iff.mp H
        obtain ⟨t223, A90, H⟩ := H
        replace H : (some t223) = some r := H
        have A9 := Aside0.mk A90
        clear A90
        obtain rfl := Option.some.inj H
        go_wp2_with (first | ((with_reducible refine gate_callee (f := 11) rfl ?_); refine goesL_ (some 17) rfl rfl Try.func11 (by kernel_rfl) rfl #[] rfl (by (try simp only [List.map_toArray, List.map_cons, List.map_nil]); first | done | rfl | (simp only [List.length_drop, List.length_take]; rfl)) ?_; (with_reducible refine (gantletlaw09_awake.calls kj1  t223 _ A9.out).mono ?_); rintro e w10 ⟨rfl, hb⟩; refine ⟨_, rfl, ?_⟩; have n0_ := Aside0.mk (below_step (by repeat (first | (with_reducible first | exact HB.out | apply below_alloc | apply pw_below_drewN | apply below_drew1) | exact HB.out)) hb); clear HB; have HB := n0_; clear n0_; (try clear hb); (try clear hb2); (try clear hk); (try clear hi)))
        go_ret
        exact ⟨by first | rfl | (simp [errW_none, errW_some] <;> rfl) | (simp [*, errW_none, errW_some] <;> rfl), by repeat (first | (with_reducible first | exact HB.out | apply below_alloc | apply pw_below_drewN | apply below_drew1) | exact HB.out)⟩
      · replace c8 := Bool.eq_false_iff.mpr c8
        subst c8
        have H1 : ((event_Whole.f a0 64).bind fun bt224 => (if bt224.2.1 = 0 then (gantletlaw09_EventHeads.l0 kj1 a0 (⟨#[]⟩ : ByteArray) bt224.1 (bt224.1.length : Int) 0) else (some true))) = some r := by rw [if_neg (show ¬ (false = true) by decide)] at H; exact H
        clear H
        have H := H1
        clear H1
        replace H := Option.bind_eq_some_iff.mp H
        obtain ⟨⟨t224, t225, t226⟩, A110, H⟩ := H
        replace H : (if t225 = 0 then (gantletlaw09_EventHeads.l0 kj1 a0 (⟨#[]⟩ : ByteArray) t224 (t224.length : Int) 0) else (some true)) = some r := H
        have A11 := Aside0.mk A110
        clear A110
        by_cases c12 : t225 = 0
        · rw [if_pos c12] at H
          have c12b0 : (t225 == 0) = true := beq_iff_eq.mpr c12
          have c12b1 : (t225 != 0) = false := bne_eq_false_iff_eq.mpr c12
          clear c12
          have H' := Aside0.mk H
          clear H
          go_wp2_with (first | ((with_reducible refine gate_callee (f := 13) rfl ?_); refine goesL_ (some 20) rfl rfl Try.func13 (by kernel_rfl) rfl #[.string a0, .int .i64 64] rfl (by (try simp only [List.map_toArray, List.map_cons, List.map_nil]); first | done | rfl | (simp only [List.length_drop, List.length_take]; rfl)) ?_; (with_reducible refine (event_Whole.calls a0 64 t224 t225 t226 _ A11.out).mono ?_); rintro e w13 ⟨v227, rfl, ho0, hb⟩; refine ⟨_, rfl, ?_⟩; have n0_ := Aside0.mk (Kd.R_lower ho0 (below_size (by repeat (first | (with_reducible first | exact HB.out | apply below_alloc | apply pw_below_drewN | apply below_drew1) | exact HB.out)))); have n1_ := Aside0.mk (below_step (by repeat (first | (with_reducible first | exact HB.out | apply below_alloc | apply pw_below_drewN | apply below_drew1) | exact HB.out)) hb); clear HB; have HO228 := n0_; have HB := n1_; clear n0_ n1_; (try clear hb); (try clear hb2); (try clear hk); (try clear hi); (try clear ho0); obtain ⟨Ao14, co14, eo14⟩ := Kd.R_slice HO228.out; subst eo14))
          go_loopg [6, 28] kj1 (fun kq v6 v28 w' => ∃ (x6_2 : ByteArray) (x28_2 : Int), v6 = .string x6_2 ∧ v28 = .int .i64 x28_2 ∧ Aside0 (gantletlaw09_EventHeads.l0 kq a0 x6_2 t224 (t224.length : Int) x28_2 = some r) ∧ Aside0 (kq ≤ kj1) ∧ Aside0 (Kd.R k36 36 w' w.heap.size (fun _ => True) (.slice Ao14 t224.length co14) t224) ∧ Aside0 (Below w.heap.size w w'))
          case atStart => exact ⟨((⟨#[]⟩ : ByteArray)), (0), (by first | rfl | (simp; done) | (simp [*]; done) | (simp [show ∀ l : List UInt8, (!l.isEmpty) = (l != []) from fun l => by cases l <;> rfl]; done)), (by first | rfl | (simp; done) | (simp [*]; done) | (simp [show ∀ l : List UInt8, (!l.isEmpty) = (l != []) from fun l => by cases l <;> rfl]; done)), H', ⟨Nat.le_refl _⟩, ⟨by (with_reducible repeat (first | apply Kd.R_alloc | apply Kd.R_drewN | apply Kd.R_drew)); exact HO228.out⟩, ⟨by repeat (first | (with_reducible first | exact HB.out | apply below_alloc | apply pw_below_drewN | apply below_drew1) | exact HB.out)⟩⟩
          case round =>
            clear H'
            try clear c1
            try clear p2
            try clear c4
            try clear c7
            try clear c8
            try clear c11
            try clear c12
            try clear c12b0
            try clear c12b1
            try clear c13
            try clear p2
            obtain ⟨x6_2, x28_2, rfl, rfl, HA, HK2, HO_26, HB⟩ := hrel
            cases gk with
            | zero => exact absurd HA.out (by simp [gantletlaw09_EventHeads.l0])
            | succ k2 =>
              have H := HA.out
              clear HA
              simp only [gantletlaw09_EventHeads.l0] at H
              by_cases c15 : x28_2 < (t224.length : Int)
              · rw [if_pos c15] at H
                have c15b0 : decide (x28_2 < (t224.length : Int)) = true := decide_eq_true c15
                clear c15
                by_cases c16 : 0 ≤ x28_2
                · rw [if_pos c16] at H
                  have c16b0 : decide (0 ≤ x28_2) = true := decide_eq_true c16
                  clear c16
                  by_cases c17 : x28_2 < (t224.length : Int)
                  · rw [if_pos c17] at H
                    have c17b0 : decide (x28_2 < (t224.length : Int)) = true := decide_eq_true c17
                    clear c17
                    have HC18 := Aside0.mk H
                    clear H
                    have p229 : 0 ≤ (x28_2 : Int) := of_decide_eq_true (by first | (with_reducible assumption) | assumption)
                    have q229 : x28_2 < (t224.length : Int) := of_decide_eq_true (by first | (with_reducible assumption) | assumption)
                    obtain ⟨ad229, e229, hx229_0, hx229_1, hx229_2, hx229_3, hx229_4, hx229_5, hx229_6⟩ := at_T36 (Kd.R_reads' HO_26.out).2.2 x28_2 p229 q229
                    cases e229
                    replace p229 := eq_true p229
                    replace q229 := eq_true q229
                    go_upto_if 34 with (first | ((with_reducible refine gate_dst (N := 8) rfl ?_); refine box_event ?hg (N := 8) ?hd (cs := #[.int .i64 0, .int .i64 0, .int .i64 0, .int .i64 0, .bool false, .int .i64 0, .int .u8 0]) (t := 36) ?hr ?_; (case hd => rfl); (case hg => rfl); (case hr => first | (go_simp; done) | (go_simp; rfl)); intro gb230 hg w19 hbox hb; have n0_ := Aside0.mk (Kd.R_below (Kd.R_elderB (by (with_reducible repeat (first | apply Kd.R_alloc | apply Kd.R_drewN | apply Kd.R_drew)); exact HO_26.out) gb230 (Nat.le_of_eq hg.symm)) hb); have n1_ := Aside0.mk (below_step (by repeat (first | (with_reducible first | exact HB.out | apply below_alloc | apply pw_below_drewN | apply below_drew1) | exact HB.out)) hb); have n2_ := Aside0.mk (hbox); have n3_ := Aside0.mk ((by rw [hg]; exact (below_size (by repeat (first | (with_reducible first | exact HB.out | apply below_alloc | apply pw_below_drewN | apply below_drew1) | exact HB.out))) : w.heap.size ≤ gb230)); have n4_ := Aside0.mk ((by rw [hg]; exact (below_size (by repeat (first | (with_reducible first | exact HB.out | apply below_alloc | apply pw_below_drewN | apply below_drew1) | exact HB.out))) : w.heap.size ≤ gb230)); clear HO_26; clear HB; have HO_26 := n0_; have HB := n1_; have BK230 := n2_; have GW230 := n3_; have GE230 := n4_; clear n0_ n1_ n2_ n3_ n4_; clear hb hbox hg; have hcz20_0 : w19.cell? ⟨gb230, 0, none⟩ = some (.int .i64 0) := (blk_cell BK230.out 0).trans rfl; have hcz20_1 : w19.cell? ⟨gb230, 1, none⟩ = some (.int .i64 0) := (blk_cell BK230.out 1).trans rfl; have hcz20_2 : w19.cell? ⟨gb230, 2, none⟩ = some (.int .i64 0) := (blk_cell BK230.out 2).trans rfl; have hcz20_3 : w19.cell? ⟨gb230, 3, none⟩ = some (.int .i64 0) := (blk_cell BK230.out 3).trans rfl; have hcz20_4 : w19.cell? ⟨gb230, 4, none⟩ = some (.bool false) := (blk_cell BK230.out 4).trans rfl; have hcz20_5 : w19.cell? ⟨gb230, 5, none⟩ = some (.int .i64 0) := (blk_cell BK230.out 5).trans rfl; have hcz20_6 : w19.cell? ⟨gb230, 6, none⟩ = some (.int .u8 0) := (blk_cell BK230.out 6).trans rfl; have hfz20_0 := blk_frozen BK230.out 0; have hfz20_1 := blk_frozen BK230.out 1; have hfz20_2 := blk_frozen BK230.out 2; have hfz20_3 := blk_frozen BK230.out 3; have hfz20_4 := blk_frozen BK230.out 4; have hfz20_5 := blk_frozen BK230.out 5; have hfz20_6 := blk_frozen BK230.out 6))
                    (try simp only [Act.put, List.setIfInBounds_toArray, List.set_cons_zero, List.set_cons_succ])
                    go_cut [34] (fun v34 wc => ∃ (kq : Nat) (x34_17 : Bool), v34 = .bool x34_17 ∧ Aside0 (gantletlaw09_EventHeads.j2 kq a0 x6_2 t224 (t224.length : Int) x28_2 ((rd_T36 t224 x28_2).f0) x34_17 ((rd_T36 t224 x28_2).f0) ((rd_T36 t224 x28_2).f1) ((rd_T36 t224 x28_2).f2.f0) ((rd_T36 t224 x28_2).f2.f1) ((rd_T36 t224 x28_2).f2.f2) ((rd_T36 t224 x28_2).f2.f3) ((rd_T36 t224 x28_2).f3) = some r) ∧ Aside0 (kq ≤ k2) ∧ Aside0 (Kd.R k36 36 wc w.heap.size (fun k_ => k_ ≠ gb230) (.slice (some ad229) t224.length co14) t224) ∧ Aside0 (wc.heap[gb230]? = some (.cells #[.int .i64 ((rd_T36 t224 x28_2).f0), .int .i64 ((rd_T36 t224 x28_2).f1), .int .i64 ((rd_T36 t224 x28_2).f2.f0), .int .i64 ((rd_T36 t224 x28_2).f2.f1), .bool ((rd_T36 t224 x28_2).f2.f2), .int .i64 ((rd_T36 t224 x28_2).f2.f3), .int .u8 ((rd_T36 t224 x28_2).f3)] 36 (0, 0))) ∧ Aside0 (Below w.heap.size w wc))
                    case first =>
                      have H := HC18.out
                      clear HC18
                      by_cases c21 : ((rd_T36 t224 x28_2).f0) = 1
                      · rw [if_pos c21] at H
                        have c21b0 : (((rd_T36 t224 x28_2).f0) == 1) = true := beq_iff_eq.mpr c21
                        have c21b1 : (((rd_T36 t224 x28_2).f0) != 1) = false := bne_eq_false_iff_eq.mpr c21
                        clear c21
                        (first | rw [c21b0] | (simp only [i64_w, i32_w]; rw [c21b0]) | skip)
                        have H' := Aside0.mk H
                        clear H
                        go_wp2
                        go_meet
                        case rel => exact ⟨_, ((((rd_T36 t224 x28_2).f0) == 1)), (by first | rfl | (simp; done) | (simp [*]; done) | (simp [show ∀ l : List UInt8, (!l.isEmpty) = (l != []) from fun l => by cases l <;> rfl]; done)), H', ⟨by have := HJ1.out; have := HK2.out; first | omega | exact Nat.le_refl _⟩, ⟨by (with_reducible repeat (first | apply Kd.R_alloc | apply Kd.R_drewN | apply Kd.R_drew)); exact Kd.R_mono (Kd.R_far (p := ⟨gb230, 6, none⟩) (Kd.R_far (p := ⟨gb230, 5, none⟩) (Kd.R_far (p := ⟨gb230, 4, none⟩) (Kd.R_far (p := ⟨gb230, 3, none⟩) (Kd.R_far (p := ⟨gb230, 2, none⟩) (Kd.R_far (p := ⟨gb230, 1, none⟩) (Kd.R_far (p := ⟨gb230, 0, none⟩) (Kd.R_mono HO_26.out (fun k_ hk => (⟨hk, hk.2⟩ : _ ∧ k_ ≠ gb230))) (fun _ hk => hk.2) (.int .i64 ((rd_T36 t224 x28_2).f0))) (fun _ hk => hk.2) (.int .i64 ((rd_T36 t224 x28_2).f1))) (fun _ hk => hk.2) (.int .i64 ((rd_T36 t224 x28_2).f2.f0))) (fun _ hk => hk.2) (.int .i64 ((rd_T36 t224 x28_2).f2.f1))) (fun _ hk => hk.2) (.bool ((rd_T36 t224 x28_2).f2.f2))) (fun _ hk => hk.2) (.int .i64 ((rd_T36 t224 x28_2).f2.f3))) (fun _ hk => hk.2) (.int .u8 ((rd_T36 t224 x28_2).f3))) (fun _ hk => hk.1.2)⟩, ⟨by (with_reducible repeat (first | refine blk_drewN ?_ _ | refine blk_drew ?_ | refine blk_alloc ?_ _)); refine blk_put (cs := #[.int .i64 ((rd_T36 t224 x28_2).f0), .int .i64 ((rd_T36 t224 x28_2).f1), .int .i64 ((rd_T36 t224 x28_2).f2.f0), .int .i64 ((rd_T36 t224 x28_2).f2.f1), .bool ((rd_T36 t224 x28_2).f2.f2), .int .i64 ((rd_T36 t224 x28_2).f2.f3), .int .u8 0]) ?_ 6 _ rfl; (with_reducible repeat (first | refine blk_drewN ?_ _ | refine blk_drew ?_ | refine blk_alloc ?_ _)); refine blk_put (cs := #[.int .i64 ((rd_T36 t224 x28_2).f0), .int .i64 ((rd_T36 t224 x28_2).f1), .int .i64 ((rd_T36 t224 x28_2).f2.f0), .int .i64 ((rd_T36 t224 x28_2).f2.f1), .bool ((rd_T36 t224 x28_2).f2.f2), .int .i64 0, .int .u8 0]) ?_ 5 _ rfl; (with_reducible repeat (first | refine blk_drewN ?_ _ | refine blk_drew ?_ | refine blk_alloc ?_ _)); refine blk_put (cs := #[.int .i64 ((rd_T36 t224 x28_2).f0), .int .i64 ((rd_T36 t224 x28_2).f1), .int .i64 ((rd_T36 t224 x28_2).f2.f0), .int .i64 ((rd_T36 t224 x28_2).f2.f1), .bool false, .int .i64 0, .int .u8 0]) ?_ 4 _ rfl; (with_reducible repeat (first | refine blk_drewN ?_ _ | refine blk_drew ?_ | refine blk_alloc ?_ _)); refine blk_put (cs := #[.int .i64 ((rd_T36 t224 x28_2).f0), .int .i64 ((rd_T36 t224 x28_2).f1), .int .i64 ((rd_T36 t224 x28_2).f2.f0), .int .i64 0, .bool false, .int .i64 0, .int .u8 0]) ?_ 3 _ rfl; (with_reducible repeat (first | refine blk_drewN ?_ _ | refine blk_drew ?_ | refine blk_alloc ?_ _)); refine blk_put (cs := #[.int .i64 ((rd_T36 t224 x28_2).f0), .int .i64 ((rd_T36 t224 x28_2).f1), .int .i64 0, .int .i64 0, .bool false, .int .i64 0, .int .u8 0]) ?_ 2 _ rfl; (with_reducible repeat (first | refine blk_drewN ?_ _ | refine blk_drew ?_ | refine blk_alloc ?_ _)); refine blk_put (cs := #[.int .i64 ((rd_T36 t224 x28_2).f0), .int .i64 0, .int .i64 0, .int .i64 0, .bool false, .int .i64 0, .int .u8 0]) ?_ 1 _ rfl; (with_reducible repeat (first | refine blk_drewN ?_ _ | refine blk_drew ?_ | refine blk_alloc ?_ _)); refine blk_put (cs := #[.int .i64 0, .int .i64 0, .int .i64 0, .int .i64 0, .bool false, .int .i64 0, .int .u8 0]) ?_ 0 _ rfl; (with_reducible repeat (first | refine blk_drewN ?_ _ | refine blk_drew ?_ | refine blk_alloc ?_ _)); exact BK230.out⟩, ⟨by repeat (first | (with_reducible first | exact HB.out | apply below_alloc | apply pw_below_drewN | apply below_drew1 | refine below_set ?_ GE230.out) | exact HB.out)⟩⟩
                      · rw [if_neg c21] at H
                        have c21b0 : (((rd_T36 t224 x28_2).f0) == 1) = false := beq_eq_false_iff_ne.mpr c21
                        have c21b1 : (((rd_T36 t224 x28_2).f0) != 1) = true := bne_iff_ne.mpr c21
                        (first | rw [c21b0] | (simp only [i64_w, i32_w]; rw [c21b0]) | skip)
                        have H' := Aside0.mk H
                        clear H
                        go_wp2
                        go_meet
                        case rel => exact ⟨_, ((((rd_T36 t224 x28_2).f0) == 2)), (by first | rfl | (simp; done) | (simp [*]; done) | (simp [show ∀ l : List UInt8, (!l.isEmpty) = (l != []) from fun l => by cases l <;> rfl]; done)), H', ⟨by have := HJ1.out; have := HK2.out; first | omega | exact Nat.le_refl _⟩, ⟨by (with_reducible repeat (first | apply Kd.R_alloc | apply Kd.R_drewN | apply Kd.R_drew)); exact Kd.R_mono (Kd.R_far (p := ⟨gb230, 6, none⟩) (Kd.R_far (p := ⟨gb230, 5, none⟩) (Kd.R_far (p := ⟨gb230, 4, none⟩) (Kd.R_far (p := ⟨gb230, 3, none⟩) (Kd.R_far (p := ⟨gb230, 2, none⟩) (Kd.R_far (p := ⟨gb230, 1, none⟩) (Kd.R_far (p := ⟨gb230, 0, none⟩) (Kd.R_mono HO_26.out (fun k_ hk => (⟨hk, hk.2⟩ : _ ∧ k_ ≠ gb230))) (fun _ hk => hk.2) (.int .i64 ((rd_T36 t224 x28_2).f0))) (fun _ hk => hk.2) (.int .i64 ((rd_T36 t224 x28_2).f1))) (fun _ hk => hk.2) (.int .i64 ((rd_T36 t224 x28_2).f2.f0))) (fun _ hk => hk.2) (.int .i64 ((rd_T36 t224 x28_2).f2.f1))) (fun _ hk => hk.2) (.bool ((rd_T36 t224 x28_2).f2.f2))) (fun _ hk => hk.2) (.int .i64 ((rd_T36 t224 x28_2).f2.f3))) (fun _ hk => hk.2) (.int .u8 ((rd_T36 t224 x28_2).f3))) (fun _ hk => hk.1.2)⟩, ⟨by (with_reducible repeat (first | refine blk_drewN ?_ _ | refine blk_drew ?_ | refine blk_alloc ?_ _)); refine blk_put (cs := #[.int .i64 ((rd_T36 t224 x28_2).f0), .int .i64 ((rd_T36 t224 x28_2).f1), .int .i64 ((rd_T36 t224 x28_2).f2.f0), .int .i64 ((rd_T36 t224 x28_2).f2.f1), .bool ((rd_T36 t224 x28_2).f2.f2), .int .i64 ((rd_T36 t224 x28_2).f2.f3), .int .u8 0]) ?_ 6 _ rfl; (with_reducible repeat (first | refine blk_drewN ?_ _ | refine blk_drew ?_ | refine blk_alloc ?_ _)); refine blk_put (cs := #[.int .i64 ((rd_T36 t224 x28_2).f0), .int .i64 ((rd_T36 t224 x28_2).f1), .int .i64 ((rd_T36 t224 x28_2).f2.f0), .int .i64 ((rd_T36 t224 x28_2).f2.f1), .bool ((rd_T36 t224 x28_2).f2.f2), .int .i64 0, .int .u8 0]) ?_ 5 _ rfl; (with_reducible repeat (first | refine blk_drewN ?_ _ | refine blk_drew ?_ | refine blk_alloc ?_ _)); refine blk_put (cs := #[.int .i64 ((rd_T36 t224 x28_2).f0), .int .i64 ((rd_T36 t224 x28_2).f1), .int .i64 ((rd_T36 t224 x28_2).f2.f0), .int .i64 ((rd_T36 t224 x28_2).f2.f1), .bool false, .int .i64 0, .int .u8 0]) ?_ 4 _ rfl; (with_reducible repeat (first | refine blk_drewN ?_ _ | refine blk_drew ?_ | refine blk_alloc ?_ _)); refine blk_put (cs := #[.int .i64 ((rd_T36 t224 x28_2).f0), .int .i64 ((rd_T36 t224 x28_2).f1), .int .i64 ((rd_T36 t224 x28_2).f2.f0), .int .i64 0, .bool false, .int .i64 0, .int .u8 0]) ?_ 3 _ rfl; (with_reducible repeat (first | refine blk_drewN ?_ _ | refine blk_drew ?_ | refine blk_alloc ?_ _)); refine blk_put (cs := #[.int .i64 ((rd_T36 t224 x28_2).f0), .int .i64 ((rd_T36 t224 x28_2).f1), .int .i64 0, .int .i64 0, .bool false, .int .i64 0, .int .u8 0]) ?_ 2 _ rfl; (with_reducible repeat (first | refine blk_drewN ?_ _ | refine blk_drew ?_ | refine blk_alloc ?_ _)); refine blk_put (cs := #[.int .i64 ((rd_T36 t224 x28_2).f0), .int .i64 0, .int .i64 0, .int .i64 0, .bool false, .int .i64 0, .int .u8 0]) ?_ 1 _ rfl; (with_reducible repeat (first | refine blk_drewN ?_ _ | refine blk_drew ?_ | refine blk_alloc ?_ _)); refine blk_put (cs := #[.int .i64 0, .int .i64 0, .int .i64 0, .int .i64 0, .bool false, .int .i64 0, .int .u8 0]) ?_ 0 _ rfl; (with_reducible repeat (first | refine blk_drewN ?_ _ | refine blk_drew ?_ | refine blk_alloc ?_ _)); exact BK230.out⟩, ⟨by repeat (first | (with_reducible first | exact HB.out | apply below_alloc | apply pw_below_drewN | apply below_drew1 | refine below_set ?_ GE230.out) | exact HB.out)⟩⟩
                    case rest =>
                      clear HC18
                      try clear c1
                      try clear c2
                      try clear p2
                      try clear q2
                      try clear hx2
                      try clear c4
                      try clear c7
                      try clear c8
                      try clear c11
                      try clear c12
                      try clear c12b0
                      try clear c12b1
                      try clear c13
                      try clear c15
                      try clear c15b0
                      try clear c16
                      try clear c16b0
                      try clear c17
                      try clear c17b0
                      try clear c21
                      try clear c21b0
                      try clear c21b1
                      try clear hcz20_0
                      try clear hcz20_1
                      try clear hcz20_2
                      try clear hcz20_3
                      try clear hcz20_4
                      try clear hcz20_5
                      try clear hcz20_6
                      try clear hfz20_0
                      try clear hfz20_1
                      try clear hfz20_2
                      try clear hfz20_3
                      try clear hfz20_4
                      try clear hfz20_5
                      try clear hfz20_6
                      try clear hx229_0
                      try clear hx229_1
                      try clear hx229_2
                      try clear hx229_3
                      try clear hx229_4
                      try clear hx229_5
                      try clear hx229_6
                      try clear p2
                      try clear p229
                      try clear q229
                      obtain ⟨kq, x34_17, rfl, HA, HJ17, HO_26, BK230, HB⟩ := hcut
                      cases kq with
                      | zero => exact absurd HA.out (by simp [gantletlaw09_EventHeads.j2])
                      | succ kj17 =>
                        have H := HA.out
                        clear HA
                        simp only [gantletlaw09_EventHeads.j2] at H
                        by_cases c22 : x34_17 = true
                        · subst c22
                          have H1 : ((gantletref07_Put.f kj17 ((rd_T36 t224 x28_2).f2.f0) ((rd_T36 t224 x28_2).f2.f1) ((rd_T36 t224 x28_2).f2.f2) ((rd_T36 t224 x28_2).f2.f3)).bind fun bt231 => (if bt231.2 = 0 then (if x6_2.size + bt231.1.size ≤ 9223372036854775807 then (if ((rd_T36 t224 x28_2).f1) = (wrap64 (((x6_2 ++ bt231.1).size : Int) - 1)) then (gantletlaw09_EventHeads.l0 kj17 a0 (x6_2 ++ bt231.1) t224 (t224.length : Int) (wrap64 (x28_2 + 1))) else (none)) else (none)) else (none))) = some r := by rw [if_pos rfl] at H; exact H
                          clear H
                          have H := H1
                          clear H1
                          replace H := Option.bind_eq_some_iff.mp H
                          obtain ⟨⟨t231, t232⟩, A230, H⟩ := H
                          replace H : (if t232 = 0 then (if x6_2.size + t231.size ≤ 9223372036854775807 then (if ((rd_T36 t224 x28_2).f1) = (wrap64 (((x6_2 ++ t231).size : Int) - 1)) then (gantletlaw09_EventHeads.l0 kj17 a0 (x6_2 ++ t231) t224 (t224.length : Int) (wrap64 (x28_2 + 1))) else (none)) else (none)) else (none)) = some r := H
                          have A23 := Aside0.mk A230
                          clear A230
                          by_cases c24 : t232 = 0
                          · rw [if_pos c24] at H
                            have c24b0 : (t232 == 0) = true := beq_iff_eq.mpr c24
                            have c24b1 : (t232 != 0) = false := bne_eq_false_iff_eq.mpr c24
                            clear c24
                            by_cases c25 : x6_2.size + t231.size ≤ 9223372036854775807
                            · rw [if_pos c25] at H
                              have c25b0 := eq_true c25
                              have c25b1 : decide (x6_2.size + t231.size ≤ 9223372036854775807) = true := decide_eq_true c25
                              try have c25b2 : (9223372036854775807 < x6_2.size + t231.size) = False := eq_false (Nat.not_lt.2 c25)
                              by_cases c26 : ((rd_T36 t224 x28_2).f1) = (wrap64 (((x6_2 ++ t231).size : Int) - 1))
                              · rw [if_pos c26] at H
                                have c26b0 : (((rd_T36 t224 x28_2).f1) == (wrap64 (((x6_2 ++ t231).size : Int) - 1))) = true := beq_iff_eq.mpr c26
                                have c26b1 : (((rd_T36 t224 x28_2).f1) != (wrap64 (((x6_2 ++ t231).size : Int) - 1))) = false := bne_eq_false_iff_eq.mpr c26
                                (try (have c26w0 : (((rd_T36 t224 x28_2).f1) == ((((x6_2 ++ t231).size : Int) - 1))) = true := by (have hw_ : wrap64 (((x6_2 ++ t231).size : Int) - 1) = (((x6_2 ++ t231).size : Int) - 1) := by (unfold wrap64; omega)); have hx_ := c26b0; rw [hw_] at hx_; exact hx_))
                                (try (have c26v0 : (((rd_T36 t224 x28_2).f1) == ((((x6_2.size : Int) + (t231.size : Int)) - 1))) = true := by (have hl_ : x6_2.size + t231.size ≤ 9223372036854775807 := of_eq_true (by assumption)); (have hw_ : wrap64 (((x6_2.size : Int) + (t231.size : Int)) - 1) = (((x6_2.size : Int) + (t231.size : Int)) - 1) := by (unfold wrap64; omega)); have hx_ := c26b0; simp only [ByteArray.size_append, Int.natCast_add] at hx_; rw [hw_] at hx_; exact hx_))
                                (try (have c26w1 : (((rd_T36 t224 x28_2).f1) != ((((x6_2 ++ t231).size : Int) - 1))) = false := by (have hw_ : wrap64 (((x6_2 ++ t231).size : Int) - 1) = (((x6_2 ++ t231).size : Int) - 1) := by (unfold wrap64; omega)); have hx_ := c26b1; rw [hw_] at hx_; exact hx_))
                                (try (have c26v1 : (((rd_T36 t224 x28_2).f1) != ((((x6_2.size : Int) + (t231.size : Int)) - 1))) = false := by (have hl_ : x6_2.size + t231.size ≤ 9223372036854775807 := of_eq_true (by assumption)); (have hw_ : wrap64 (((x6_2.size : Int) + (t231.size : Int)) - 1) = (((x6_2.size : Int) + (t231.size : Int)) - 1) := by (unfold wrap64; omega)); have hx_ := c26b1; simp only [ByteArray.size_append, Int.natCast_add] at hx_; rw [hw_] at hx_; exact hx_))
                                clear c26
                                have H' := Aside0.mk H
                                clear H
                                have hcz27_0 : wc.cell? ⟨gb230, 0, none⟩ = some (.int .i64 ((rd_T36 t224 x28_2).f0)) := (blk_cell BK230.out 0).trans rfl
                                have hcz27_1 : wc.cell? ⟨gb230, 1, none⟩ = some (.int .i64 ((rd_T36 t224 x28_2).f1)) := (blk_cell BK230.out 1).trans rfl
                                have hcz27_2 : wc.cell? ⟨gb230, 2, none⟩ = some (.int .i64 ((rd_T36 t224 x28_2).f2.f0)) := (blk_cell BK230.out 2).trans rfl
                                have hcz27_3 : wc.cell? ⟨gb230, 3, none⟩ = some (.int .i64 ((rd_T36 t224 x28_2).f2.f1)) := (blk_cell BK230.out 3).trans rfl
                                have hcz27_4 : wc.cell? ⟨gb230, 4, none⟩ = some (.bool ((rd_T36 t224 x28_2).f2.f2)) := (blk_cell BK230.out 4).trans rfl
                                have hcz27_5 : wc.cell? ⟨gb230, 5, none⟩ = some (.int .i64 ((rd_T36 t224 x28_2).f2.f3)) := (blk_cell BK230.out 5).trans rfl
                                have hcz27_6 : wc.cell? ⟨gb230, 6, none⟩ = some (.int .u8 ((rd_T36 t224 x28_2).f3)) := (blk_cell BK230.out 6).trans rfl
                                have hfz27_0 := blk_frozen BK230.out 0
                                have hfz27_1 := blk_frozen BK230.out 1
                                have hfz27_2 := blk_frozen BK230.out 2
                                have hfz27_3 := blk_frozen BK230.out 3
                                have hfz27_4 := blk_frozen BK230.out 4
                                have hfz27_5 := blk_frozen BK230.out 5
                                have hfz27_6 := blk_frozen BK230.out 6
                                go_wp2_with (first | ((with_reducible refine gate_callee (f := 16) rfl ?_); refine goesL_ (some 40) rfl rfl Try.func16 (by kernel_rfl) rfl #[.agg #[.int .i64 ((rd_T36 t224 x28_2).f2.f0), .int .i64 ((rd_T36 t224 x28_2).f2.f1), .bool ((rd_T36 t224 x28_2).f2.f2), .int .i64 ((rd_T36 t224 x28_2).f2.f3)]] rfl (by (try simp only [List.map_toArray, List.map_cons, List.map_nil]); first | done | rfl | (simp only [List.length_drop, List.length_take]; rfl)) ?_; (with_reducible refine (gantletref07_Put.calls kj17 ((rd_T36 t224 x28_2).f2.f0) ((rd_T36 t224 x28_2).f2.f1) ((rd_T36 t224 x28_2).f2.f2) ((rd_T36 t224 x28_2).f2.f3) t231 t232 _ A23.out).mono ?_); rintro e w28 ⟨rfl, hb⟩; refine ⟨_, rfl, ?_⟩; have n0_ := Aside0.mk (Kd.R_below (by (with_reducible repeat (first | apply Kd.R_alloc | apply Kd.R_drewN | apply Kd.R_drew)); exact HO_26.out) hb); have n1_ := Aside0.mk (blk_below (g := gb230) (o := .cells #[.int .i64 ((rd_T36 t224 x28_2).f0), .int .i64 ((rd_T36 t224 x28_2).f1), .int .i64 ((rd_T36 t224 x28_2).f2.f0), .int .i64 ((rd_T36 t224 x28_2).f2.f1), .bool ((rd_T36 t224 x28_2).f2.f2), .int .i64 ((rd_T36 t224 x28_2).f2.f3), .int .u8 ((rd_T36 t224 x28_2).f3)] 36 (0, 0)) (by (with_reducible repeat (first | refine blk_drewN ?_ _ | refine blk_drew ?_ | refine blk_alloc ?_ _)); exact BK230.out) hb); have n2_ := Aside0.mk (below_step (by repeat (first | (with_reducible first | exact HB.out | apply below_alloc | apply pw_below_drewN | apply below_drew1 | refine below_set ?_ GE230.out) | exact HB.out)) hb); clear HO_26; clear BK230; clear HB; have HO_26 := n0_; have BK230 := n1_; have HB := n2_; clear n0_ n1_ n2_; (try clear hb); (try clear hb2); (try clear hk); (try clear hi); have hcz29_0 : w28.cell? ⟨gb230, 0, none⟩ = some (.int .i64 ((rd_T36 t224 x28_2).f0)) := (blk_cell BK230.out 0).trans rfl; have hcz29_1 : w28.cell? ⟨gb230, 1, none⟩ = some (.int .i64 ((rd_T36 t224 x28_2).f1)) := (blk_cell BK230.out 1).trans rfl; have hcz29_2 : w28.cell? ⟨gb230, 2, none⟩ = some (.int .i64 ((rd_T36 t224 x28_2).f2.f0)) := (blk_cell BK230.out 2).trans rfl; have hcz29_3 : w28.cell? ⟨gb230, 3, none⟩ = some (.int .i64 ((rd_T36 t224 x28_2).f2.f1)) := (blk_cell BK230.out 3).trans rfl; have hcz29_4 : w28.cell? ⟨gb230, 4, none⟩ = some (.bool ((rd_T36 t224 x28_2).f2.f2)) := (blk_cell BK230.out 4).trans rfl; have hcz29_5 : w28.cell? ⟨gb230, 5, none⟩ = some (.int .i64 ((rd_T36 t224 x28_2).f2.f3)) := (blk_cell BK230.out 5).trans rfl; have hcz29_6 : w28.cell? ⟨gb230, 6, none⟩ = some (.int .u8 ((rd_T36 t224 x28_2).f3)) := (blk_cell BK230.out 6).trans rfl; have hfz29_0 := blk_frozen BK230.out 0; have hfz29_1 := blk_frozen BK230.out 1; have hfz29_2 := blk_frozen BK230.out 2; have hfz29_3 := blk_frozen BK230.out 3; have hfz29_4 := blk_frozen BK230.out 4; have hfz29_5 := blk_frozen BK230.out 5; have hfz29_6 := blk_frozen BK230.out 6))
                                go_roundg kj17
                                case measure => have := HJ1.out; have := HK2.out; have := HJ17.out; omega
                                case rel => exact ⟨(x6_2 ++ t231), (wrap64 (x28_2 + 1)), (by first | rfl | (simp; done) | (simp [*]; done) | (simp [show ∀ l : List UInt8, (!l.isEmpty) = (l != []) from fun l => by cases l <;> rfl]; done)), (by first | rfl | (simp; done) | (simp [*]; done) | (simp [show ∀ l : List UInt8, (!l.isEmpty) = (l != []) from fun l => by cases l <;> rfl]; done)), H', ⟨by have := HJ1.out; have := HK2.out; have := HJ17.out; omega⟩, ⟨by (with_reducible repeat (first | apply Kd.R_alloc | apply Kd.R_drewN | apply Kd.R_drew)); exact Kd.R_mono HO_26.out (fun _ hk => trivial)⟩, ⟨by repeat (first | (with_reducible first | exact HB.out | apply below_alloc | apply pw_below_drewN | apply below_drew1 | refine below_set ?_ GE230.out) | exact HB.out)⟩⟩
                              · rw [if_neg c26] at H
                                exact absurd H (by simp)
                            · rw [if_neg c25] at H
                              exact absurd H (by simp)
                          · rw [if_neg c24] at H
                            exact absurd H (by simp)
                        · replace c22 := Bool.eq_false_iff.mpr c22
                          subst c22
                          have H1 : (if ((rd_T36 t224 x28_2).f0) = 3 then ((some (([((rd_T36 t224 x28_2).f3)] : List Int) : List Int)).bind fun y233 => (if x6_2.size + (strOfNums y233).size ≤ 9223372036854775807 then (gantletlaw09_EventHeads.l0 kj17 a0 (x6_2 ++ (strOfNums y233)) t224 (t224.length : Int) (wrap64 (x28_2 + 1))) else (none))) else (gantletlaw09_EventHeads.l0 kj17 a0 x6_2 t224 (t224.length : Int) (wrap64 (x28_2 + 1)))) = some r := by rw [if_neg (show ¬ (false = true) by decide)] at H; exact H
                          clear H
                          have H := H1
                          clear H1
                          by_cases c30 : ((rd_T36 t224 x28_2).f0) = 3
                          · rw [if_pos c30] at H
                            have c30b0 : (((rd_T36 t224 x28_2).f0) == 3) = true := beq_iff_eq.mpr c30
                            have c30b1 : (((rd_T36 t224 x28_2).f0) != 3) = false := bne_eq_false_iff_eq.mpr c30
                            clear c30
                            obtain ⟨y233, hy233⟩ : ∃ y_ : List Int, y_ = (([((rd_T36 t224 x28_2).f3)] : List Int)) := ⟨_, rfl⟩
                            replace H : (if x6_2.size + (strOfNums y233).size ≤ 9223372036854775807 then (gantletlaw09_EventHeads.l0 kj17 a0 (x6_2 ++ (strOfNums y233)) t224 (t224.length : Int) (wrap64 (x28_2 + 1))) else (none)) = some r := by first | (rw [hy233]; with_reducible exact H) | (have H2_ := (Option.bind_some _ _).symm.trans H; rw [hy233]; with_reducible exact H2_) | (have H2_ := (Option.bind_some _ _).symm.trans H; with_reducible exact H2_) | with_reducible exact H | (rw [hy233]; exact H) | exact H
                            have Ny233 := Aside0.mk hy233
                            clear hy233
                            by_cases c31 : x6_2.size + (strOfNums y233).size ≤ 9223372036854775807
                            · rw [if_pos c31] at H
                              have c31b0 := eq_true c31
                              have c31b1 : decide (x6_2.size + (strOfNums y233).size ≤ 9223372036854775807) = true := decide_eq_true c31
                              try have c31b2 : (9223372036854775807 < x6_2.size + (strOfNums y233).size) = False := eq_false (Nat.not_lt.2 c31)
                              have H' := Aside0.mk H
                              clear H
                              have hcz32_0 : wc.cell? ⟨gb230, 0, none⟩ = some (.int .i64 ((rd_T36 t224 x28_2).f0)) := (blk_cell BK230.out 0).trans rfl
                              have hcz32_1 : wc.cell? ⟨gb230, 1, none⟩ = some (.int .i64 ((rd_T36 t224 x28_2).f1)) := (blk_cell BK230.out 1).trans rfl
                              have hcz32_2 : wc.cell? ⟨gb230, 2, none⟩ = some (.int .i64 ((rd_T36 t224 x28_2).f2.f0)) := (blk_cell BK230.out 2).trans rfl
                              have hcz32_3 : wc.cell? ⟨gb230, 3, none⟩ = some (.int .i64 ((rd_T36 t224 x28_2).f2.f1)) := (blk_cell BK230.out 3).trans rfl
                              have hcz32_4 : wc.cell? ⟨gb230, 4, none⟩ = some (.bool ((rd_T36 t224 x28_2).f2.f2)) := (blk_cell BK230.out 4).trans rfl
                              have hcz32_5 : wc.cell? ⟨gb230, 5, none⟩ = some (.int .i64 ((rd_T36 t224 x28_2).f2.f3)) := (blk_cell BK230.out 5).trans rfl
                              have hcz32_6 : wc.cell? ⟨gb230, 6, none⟩ = some (.int .u8 ((rd_T36 t224 x28_2).f3)) := (blk_cell BK230.out 6).trans rfl
                              have hfz32_0 := blk_frozen BK230.out 0
                              have hfz32_1 := blk_frozen BK230.out 1
                              have hfz32_2 := blk_frozen BK230.out 2
                              have hfz32_3 := blk_frozen BK230.out 3
                              have hfz32_4 := blk_frozen BK230.out 4
                              have hfz32_5 := blk_frozen BK230.out 5
                              have hfz32_6 := blk_frozen BK230.out 6
                              go_wp2_with (first | ((with_reducible refine gate_dst (N := 59) rfl ?_); refine Kd.R_lit (Kd.int .u8) _ 5 ?hg (N := 59) ?hd (xs := ([((rd_T36 t224 x28_2).f3)] : List Int)) (inner := [.int .u8 ((rd_T36 t224 x28_2).f3)]) (ok := fun _ => True) (okp := fun _ => True) ?hr ?hp (fun _ hk => hk) trivial (Below.refl _ _) (Nat.le_refl _) (by simp) ?_; (case hd => rfl); (case hg => rfl); (case hr => first | (go_simp; done) | (go_simp; rfl)); (case hp => exact (Reps.one (show Kd.M (Kd.int .u8) _ _ _ ((rd_T36 t224 x28_2).f3) [.int .u8 ((rd_T36 t224 x28_2).f3)] from rfl) (Reps.none _ _))); intro v234 w33 ho34 hb hg_ hnew_; clear hg_ hnew_; (first | rw [← Ny233.out] at ho34 | (simp only [Int.reduceToNat] at ho34; rw [← Ny233.out] at ho34)); have n0_ := Aside0.mk (Kd.R_below (by (with_reducible repeat (first | apply Kd.R_alloc | apply Kd.R_drewN | apply Kd.R_drew)); exact HO_26.out) hb); have n1_ := Aside0.mk (Kd.R_lower ho34 (below_size (by repeat (first | (with_reducible first | exact HB.out | apply below_alloc | apply pw_below_drewN | apply below_drew1 | refine below_set ?_ GE230.out) | exact HB.out)))); have n2_ := Aside0.mk (blk_below (g := gb230) (o := .cells #[.int .i64 ((rd_T36 t224 x28_2).f0), .int .i64 ((rd_T36 t224 x28_2).f1), .int .i64 ((rd_T36 t224 x28_2).f2.f0), .int .i64 ((rd_T36 t224 x28_2).f2.f1), .bool ((rd_T36 t224 x28_2).f2.f2), .int .i64 ((rd_T36 t224 x28_2).f2.f3), .int .u8 ((rd_T36 t224 x28_2).f3)] 36 (0, 0)) (by (with_reducible repeat (first | refine blk_drewN ?_ _ | refine blk_drew ?_ | refine blk_alloc ?_ _)); exact BK230.out) hb); have n3_ := Aside0.mk (below_step (by repeat (first | (with_reducible first | exact HB.out | apply below_alloc | apply pw_below_drewN | apply below_drew1 | refine below_set ?_ GE230.out) | exact HB.out)) hb); clear HO_26; clear BK230; clear HB; have HO_26 := n0_; have HO235 := n1_; have BK230 := n2_; have HB := n3_; clear n0_ n1_ n2_ n3_; clear hb ho34; have hcv35 := own_string (P := Try.prog) Try.underlying41 Try.underlying5 Try.underlying9 (Kd.own_of_R HO235.out)))
                              go_roundg kj17
                              case measure => have := HJ1.out; have := HK2.out; have := HJ17.out; omega
                              case rel => exact ⟨(x6_2 ++ (strOfNums y233)), (wrap64 (x28_2 + 1)), (by first | rfl | (simp; done) | (simp [*]; done) | (simp [show ∀ l : List UInt8, (!l.isEmpty) = (l != []) from fun l => by cases l <;> rfl]; done)), (by first | rfl | (simp; done) | (simp [*]; done) | (simp [show ∀ l : List UInt8, (!l.isEmpty) = (l != []) from fun l => by cases l <;> rfl]; done)), H', ⟨by have := HJ1.out; have := HK2.out; have := HJ17.out; omega⟩, ⟨by (with_reducible repeat (first | apply Kd.R_alloc | apply Kd.R_drewN | apply Kd.R_drew)); exact Kd.R_mono HO_26.out (fun _ hk => trivial)⟩, ⟨by repeat (first | (with_reducible first | exact HB.out | apply below_alloc | apply pw_below_drewN | apply below_drew1 | refine below_set ?_ GE230.out) | exact HB.out)⟩⟩
                            · rw [if_neg c31] at H
                              exact absurd H (by simp)
                          · rw [if_neg c30] at H
                            have c30b0 : (((rd_T36 t224 x28_2).f0) == 3) = false := beq_eq_false_iff_ne.mpr c30
                            have c30b1 : (((rd_T36 t224 x28_2).f0) != 3) = true := bne_iff_ne.mpr c30
                            have H' := Aside0.mk H
                            clear H
                            go_wp2
                            go_roundg kj17
                            case measure => have := HJ1.out; have := HK2.out; have := HJ17.out; omega
                            case rel => exact ⟨(x6_2), (wrap64 (x28_2 + 1)), (by first | rfl | (simp; done) | (simp [*]; done) | (simp [show ∀ l : List UInt8, (!l.isEmpty) = (l != []) from fun l => by cases l <;> rfl]; done)), (by first | rfl | (simp; done) | (simp [*]; done) | (simp [show ∀ l : List UInt8, (!l.isEmpty) = (l != []) from fun l => by cases l <;> rfl]; done)), H', ⟨by have := HJ1.out; have := HK2.out; have := HJ17.out; omega⟩, ⟨by (with_reducible repeat (first | apply Kd.R_alloc | apply Kd.R_drewN | apply Kd.R_drew)); exact Kd.R_mono HO_26.out (fun _ hk => trivial)⟩, ⟨by repeat (first | (with_reducible first | exact HB.out | apply below_alloc | apply pw_below_drewN | apply below_drew1 | refine below_set ?_ GE230.out) | exact HB.out)⟩⟩
                  · rw [if_neg c17] at H
                    exact absurd H (by simp)
                · rw [if_neg c16] at H
                  exact absurd H (by simp)
              · rw [if_neg c15] at H
                have c15b0 : decide (x28_2 < (t224.length : Int)) = false := decide_eq_false c15
                clear c15
                obtain rfl := Option.some.inj H
                go_wp2
                go_ret
                exact ⟨by first | rfl | (simp [errW_none, errW_some] <;> rfl) | (simp [*, errW_none, errW_some] <;> rfl), by repeat (first | (with_reducible first | exact HB.out | apply below_alloc | apply pw_below_drewN | apply below_drew1) | exact HB.out)⟩
        · rw [if_neg c12] at H
          have c12b0 : (t225 == 0) = false := beq_eq_false_iff_ne.mpr c12
          have c12b1 : (t225 != 0) = true := bne_iff_ne.mpr c12
          obtain rfl := Option.some.inj H
          go_wp2_with (first | ((with_reducible refine gate_callee (f := 13) rfl ?_); refine goesL_ (some 20) rfl rfl Try.func13 (by kernel_rfl) rfl #[.string a0, .int .i64 64] rfl (by (try simp only [List.map_toArray, List.map_cons, List.map_nil]); first | done | rfl | (simp only [List.length_drop, List.length_take]; rfl)) ?_; (with_reducible refine (event_Whole.calls a0 64 t224 t225 t226 _ A11.out).mono ?_); rintro e w36 ⟨v227, rfl, ho0, hb⟩; refine ⟨_, rfl, ?_⟩; have n0_ := Aside0.mk (Kd.R_lower ho0 (below_size (by repeat (first | (with_reducible first | exact HB.out | apply below_alloc | apply pw_below_drewN | apply below_drew1) | exact HB.out)))); have n1_ := Aside0.mk (below_step (by repeat (first | (with_reducible first | exact HB.out | apply below_alloc | apply pw_below_drewN | apply below_drew1) | exact HB.out)) hb); clear HB; have HO228 := n0_; have HB := n1_; clear n0_ n1_; (try clear hb); (try clear hb2); (try clear hk); (try clear hi); (try clear ho0)))
          go_ret
          exact ⟨by first | rfl | (simp [errW_none, errW_some] <;> rfl) | (simp [*, errW_none, errW_some] <;> rfl), by repeat (first | (with_reducible first | exact HB.out | apply below_alloc | apply pw_below_drewN | apply below_drew1) | exact HB.out)⟩

/-- THE ONE PURE STATEMENT of gantletlaw09_EventHeads: yours. -/
def gantletlaw09_EventHeads.Pure : Prop := ∀ (a0 : ByteArray), a0.size ≤ 140737488351232 → ∃ k, gantletlaw09_EventHeads.f k a0 = some true
theorem gantletlaw09_EventHeads.walk (P : gantletlaw09_EventHeads.Pure) (a0 : ByteArray) (w : World) (w0 : a0.size ≤ 140737488351232) :
    Calls Try.prog 7 #[.string a0] w fun e w' => e = .returned (.bool true) ∧ Below w.heap.size w w' := by
  obtain ⟨k, h⟩ := P a0 w0
  refine (gantletlaw09_EventHeads.calls k a0 true w h).mono ?_
  rintro e w' ⟨rfl, hd⟩
  exact ⟨rfl, hd⟩

end Go.Proofs.Ytomaajagncjiiaa.PB
