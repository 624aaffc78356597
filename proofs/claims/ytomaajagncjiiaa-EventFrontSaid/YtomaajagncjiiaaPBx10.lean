-- Written by a program of this session (print2, a turned print): not PRINTED BY print.sh
import Derived.Test.YtomaajagncjiiaaPBx0
import Derived.Test.YtomaajagncjiiaaPBx8
import Derived.Test.YtomaajagncjiiaaPBx9
namespace Go.Proofs.Ytomaajagncjiiaa.PB
open Go.RowKit Go.Proofs.YtomaajagncjiiaaW.PrintWords Go.Proofs.YtomaajagncjiiaaW.PrintLast Go.Proofs.YtomaajagncjiiaaW.PrintMore
attribute [local go_sem] max2_int min2_int max_two min_two max_three min_three max_four min_four   -- for this text's walks alone
set_option linter.unusedVariables false
set_option linter.unusedSimpArgs false

/-! ### gantletlaw09_EventFront: function 4 -/
mutual
def gantletlaw09_EventFront.j0 : Nat → ByteArray → Int → Int → Bool → Option (Bool)
  | 0, _, _, _, _ => none
  | k + 1, x0, x1, x2, x31 => if x31 = true then ((gantletlaw09_awake.f k).bind fun t128 => (some t128)) else ((event_Whole.f x0 x2).bind fun bt129 => (if 0 ≤ x1 then (if x1 ≤ (x0.size : Int) then ((event_Whole.f (x0.extract 0 (x1 : Int).toNat) x2).bind fun bt134 => (gantletlaw09_EventFront.l0 k x1 bt134.1 bt134.2.1 bt134.2.2 ([] : List (S36)) bt129.1 (bt129.1.length : Int) 0)) else (none)) else (none)))
def gantletlaw09_EventFront.l0 : Nat → Int → List (S36) → Int → Int → List (S36) → List (S36) → Int → Int → Option (Bool)
  | 0, _, _, _, _, _, _, _, _ => none
  | k + 1, x1, x10, x11, x12, x13, x49, x50, x51 => if x51 < x50 then (if 0 ≤ x51 then (if x51 < (x49.length : Int) then (if ((rd_T36 x49 x51).f1) < x1 then (if x13.length < 2513169434916 then (gantletlaw09_EventFront.l0 k x1 x10 x11 x12 (x13 ++ [(⟨(rd_T36 x49 x51).f0, (rd_T36 x49 x51).f1, (⟨(rd_T36 x49 x51).f2.f0, (rd_T36 x49 x51).f2.f1, (rd_T36 x49 x51).f2.f2, (rd_T36 x49 x51).f2.f3⟩ : S34), (rd_T36 x49 x51).f3⟩ : S36)]) x49 x50 (wrap64 (x51 + 1))) else (none)) else (gantletlaw09_EventFront.l0 k x1 x10 x11 x12 x13 x49 x50 (wrap64 (x51 + 1)))) else (none)) else (none)) else ((gantletref09_Same.f k x10 x13).bind fun t144 => (if t144 = true then (if x12 ≤ x1 then (if x12 < x1 then (some true) else (if x11 = 0 then (some true) else (some (x11 == 2)))) else (none)) else (none)))
end
def gantletlaw09_EventFront.f (k : Nat) (a0 : ByteArray) (a1 : Int) (a2 : Int) : Option (Bool) := (gantletlaw09_awake.f k).bind fun t126 => (if t126 = true then ((gantletlaw09_great.f a0).bind fun t127 => (if t127 = true then (gantletlaw09_EventFront.j0 k a0 a1 a2 true) else (if a1 < 0 then (gantletlaw09_EventFront.j0 k a0 a1 a2 true) else (gantletlaw09_EventFront.j0 k a0 a1 a2 (decide (a1 > (a0.size : Int))))))) else (gantletlaw09_EventFront.j0 k a0 a1 a2 true))
theorem gantletlaw09_EventFront.mono_l : ∀ k, (∀ y0 y1 y2 y3, LeO (gantletlaw09_EventFront.j0 k y0 y1 y2 y3) (gantletlaw09_EventFront.j0 (k + 1) y0 y1 y2 y3)) ∧ (∀ y0 y1 y2 y3 y4 y5 y6 y7, LeO (gantletlaw09_EventFront.l0 k y0 y1 y2 y3 y4 y5 y6 y7) (gantletlaw09_EventFront.l0 (k + 1) y0 y1 y2 y3 y4 y5 y6 y7))
  | 0 => ⟨fun _ _ _ _ r h => by simp [gantletlaw09_EventFront.j0] at h, fun _ _ _ _ _ _ _ _ r h => by simp [gantletlaw09_EventFront.l0] at h⟩
  | k + 1 => by
    obtain ⟨ih0, ih1⟩ := gantletlaw09_EventFront.mono_l k
    refine ⟨?_, ?_⟩
    · intro y0 y1 y2 y3
      unfold gantletlaw09_EventFront.j0
      repeat' first
      | (with_reducible exact ih0 _ _ _ _)
      | (with_reducible exact ih1 _ _ _ _ _ _ _ _)
      | (with_reducible exact gantletlaw09_awake.mono _)
      | (with_reducible exact gantletref09_Same.mono _ _ _)
      | (with_reducible exact LeO.refl _)
      | (with_reducible exact LeO.none _)
      | (with_reducible refine LeO.ite ?_ ?_)
      | (with_reducible refine LeO.bind ?_ (fun _ => ?_))
      | exact ih0 _ _ _ _
      | exact ih1 _ _ _ _ _ _ _ _
      | exact gantletlaw09_awake.mono _
      | exact gantletref09_Same.mono _ _ _
      | exact LeO.none _
      | refine LeO.ite ?_ ?_
      | refine LeO.bind ?_ (fun _ => ?_)
    · intro y0 y1 y2 y3 y4 y5 y6 y7
      unfold gantletlaw09_EventFront.l0
      repeat' first
      | (with_reducible exact ih0 _ _ _ _)
      | (with_reducible exact ih1 _ _ _ _ _ _ _ _)
      | (with_reducible exact gantletlaw09_awake.mono _)
      | (with_reducible exact gantletref09_Same.mono _ _ _)
      | (with_reducible exact LeO.refl _)
      | (with_reducible exact LeO.none _)
      | (with_reducible refine LeO.ite ?_ ?_)
      | (with_reducible refine LeO.bind ?_ (fun _ => ?_))
      | exact ih0 _ _ _ _
      | exact ih1 _ _ _ _ _ _ _ _
      | exact gantletlaw09_awake.mono _
      | exact gantletref09_Same.mono _ _ _
      | exact LeO.none _
      | refine LeO.ite ?_ ?_
      | refine LeO.bind ?_ (fun _ => ?_)
theorem gantletlaw09_EventFront.mono : ∀ a0 a1 a2 k, LeO (gantletlaw09_EventFront.f k a0 a1 a2) (gantletlaw09_EventFront.f (k + 1) a0 a1 a2) := by
  intro a0 a1 a2 k
  obtain ⟨ih0, ih1⟩ := gantletlaw09_EventFront.mono_l k
  unfold gantletlaw09_EventFront.f
  repeat' first
      | (with_reducible exact ih0 _ _ _ _)
      | (with_reducible exact ih1 _ _ _ _ _ _ _ _)
      | (with_reducible exact gantletlaw09_awake.mono _)
      | (with_reducible exact gantletref09_Same.mono _ _ _)
      | (with_reducible exact LeO.refl _)
      | (with_reducible exact LeO.none _)
      | (with_reducible refine LeO.ite ?_ ?_)
      | (with_reducible refine LeO.bind ?_ (fun _ => ?_))
      | exact ih0 _ _ _ _
      | exact ih1 _ _ _ _ _ _ _ _
      | exact gantletlaw09_awake.mono _
      | exact gantletref09_Same.mono _ _ _
      | exact LeO.none _
      | refine LeO.ite ?_ ?_
      | refine LeO.bind ?_ (fun _ => ?_)
set_option maxHeartbeats 8000000 in
set_option maxRecDepth 100000 in
theorem gantletlaw09_EventFront.calls (k : Nat) (a0 : ByteArray) (a1 : Int) (a2 : Int) (r : Bool) (w : World) (h : gantletlaw09_EventFront.f k a0 a1 a2 = some r) :
    Calls Try.prog 4 #[.string a0, .int .i64 a1, .int .i64 a2] w fun e w' => e = .returned (.bool r) ∧ Below w.heap.size w w' := by
  have hu36 := Try.underlying36
  have HB := Aside0.mk (Below.refl w.heap.size w)
  have H : ((gantletlaw09_awake.f k).bind fun t126 => (if t126 = true then ((gantletlaw09_great.f a0).bind fun t127 => (if t127 = true then (gantletlaw09_EventFront.j0 k a0 a1 a2 true) else (if a1 < 0 then (gantletlaw09_EventFront.j0 k a0 a1 a2 true) else (gantletlaw09_EventFront.j0 k a0 a1 a2 (decide (a1 > (a0.size : Int))))))) else (gantletlaw09_EventFront.j0 k a0 a1 a2 true))) = some r := h
  clear h
  have HC4 := Aside0.mk H
  clear H
  go_enter Try.func4, Try.ntmps4
  go_upto_region 1 with (fail)
  go_cut [31] (fun v31 wc => ∃ (kq : Nat) (x31_3 : Bool), v31 = .bool x31_3 ∧ Aside0 (gantletlaw09_EventFront.j0 kq a0 a1 a2 x31_3 = some r) ∧ Aside0 (kq ≤ k) ∧ Aside0 (Below w.heap.size w wc))
  case first =>
    have H := HC4.out
    clear HC4
    replace H := Option.bind_eq_some_iff.mp H
    obtain ⟨t126, A50, H⟩ := H
    replace H : (if t126 = true then ((gantletlaw09_great.f a0).bind fun t127 => (if t127 = true then (gantletlaw09_EventFront.j0 k a0 a1 a2 true) else (if a1 < 0 then (gantletlaw09_EventFront.j0 k a0 a1 a2 true) else (gantletlaw09_EventFront.j0 k a0 a1 a2 (decide (a1 > (a0.size : Int))))))) else (gantletlaw09_EventFront.j0 k a0 a1 a2 true)) = some r := H
    have A5 := Aside0.mk A50
    clear A50
    by_cases c6 : t126 = true
    · subst c6
      have H1 : ((gantletlaw09_great.f a0).bind fun t127 => (if t127 = true then (gantletlaw09_EventFront.j0 k a0 a1 a2 true) else (if a1 < 0 then (gantletlaw09_EventFront.j0 k a0 a1 a2 true) else (gantletlaw09_EventFront.j0 k a0 a1 a2 (decide (a1 > (a0.size : Int))))))) = some r := by rw [if_pos rfl] at H; exact H
      clear H
      have H := H1
      clear H1
      replace H := Option.bind_eq_some_iff.mp H
      obtain ⟨t127, A70, H⟩ := H
      replace H : (if t127 = true then (gantletlaw09_EventFront.j0 k a0 a1 a2 true) else (if a1 < 0 then (gantletlaw09_EventFront.j0 k a0 a1 a2 true) else (gantletlaw09_EventFront.j0 k a0 a1 a2 (decide (a1 > (a0.size : Int)))))) = some r := H
      have A7 := Aside0.mk A70
      clear A70
      by_cases c8 : t127 = true
      · subst c8
        have H1 : (gantletlaw09_EventFront.j0 k a0 a1 a2 true) = some r := by rw [if_pos rfl] at H; exact H
        clear H
        have H := H1
        clear H1
        have H' := Aside0.mk H
        clear H
        go_wp2_with (first | ((with_reducible refine gate_callee (f := 11) rfl ?_); refine goesL_ (some 16) rfl rfl Try.func11 (by kernel_rfl) rfl #[] rfl (by (try simp only [List.map_toArray, List.map_cons, List.map_nil]); first | done | rfl | (simp only [List.length_drop, List.length_take]; rfl)) ?_; (with_reducible refine (gantletlaw09_awake.calls k  true _ A5.out).mono ?_); rintro e w9 ⟨rfl, hb⟩; refine ⟨_, rfl, ?_⟩; have n0_ := Aside0.mk (below_step (by repeat (first | (with_reducible first | exact HB.out | apply below_alloc | apply pw_below_drewN | apply below_drew1) | exact HB.out)) hb); clear HB; have HB := n0_; clear n0_; (try clear hb); (try clear hb2); (try clear hk); (try clear hi)) | (go_at_call 12; (with_reducible refine (gantletlaw09_great.calls a0 true _ A7.out).mono ?_); rintro e w' ⟨rfl, ⟨nd, rfl⟩⟩))
        go_meet
        case rel => exact ⟨_, (true), (by first | rfl | (simp; done) | (simp [*]; done) | (simp [show ∀ l : List UInt8, (!l.isEmpty) = (l != []) from fun l => by cases l <;> rfl]; done)), H', ⟨by first | omega | exact Nat.le_refl _⟩, ⟨by repeat (first | (with_reducible first | exact HB.out | apply below_alloc | apply pw_below_drewN | apply below_drew1) | exact HB.out)⟩⟩
      · replace c8 := Bool.eq_false_iff.mpr c8
        subst c8
        have H1 : (if a1 < 0 then (gantletlaw09_EventFront.j0 k a0 a1 a2 true) else (gantletlaw09_EventFront.j0 k a0 a1 a2 (decide (a1 > (a0.size : Int))))) = some r := by rw [if_neg (show ¬ (false = true) by decide)] at H; exact H
        clear H
        have H := H1
        clear H1
        by_cases c10 : a1 < 0
        · rw [if_pos c10] at H
          have c10b0 : decide (a1 < 0) = true := decide_eq_true c10
          clear c10
          (first | rw [c10b0] | (simp only [i64_w, i32_w]; rw [c10b0]) | skip)
          have H' := Aside0.mk H
          clear H
          go_wp2_with (first | ((with_reducible refine gate_callee (f := 11) rfl ?_); refine goesL_ (some 16) rfl rfl Try.func11 (by kernel_rfl) rfl #[] rfl (by (try simp only [List.map_toArray, List.map_cons, List.map_nil]); first | done | rfl | (simp only [List.length_drop, List.length_take]; rfl)) ?_; (with_reducible refine (gantletlaw09_awake.calls k  true _ A5.out).mono ?_); rintro e w11 ⟨rfl, hb⟩; refine ⟨_, rfl, ?_⟩; have n0_ := Aside0.mk (below_step (by repeat (first | (with_reducible first | exact HB.out | apply below_alloc | apply pw_below_drewN | apply below_drew1) | exact HB.out)) hb); clear HB; have HB := n0_; clear n0_; (try clear hb); (try clear hb2); (try clear hk); (try clear hi)) | (go_at_call 12; (with_reducible refine (gantletlaw09_great.calls a0 false _ A7.out).mono ?_); rintro e w' ⟨rfl, ⟨nd, rfl⟩⟩))
          go_meet
          case rel => exact ⟨_, (true), (by first | rfl | (simp; done) | (simp [*]; done) | (simp [show ∀ l : List UInt8, (!l.isEmpty) = (l != []) from fun l => by cases l <;> rfl]; done)), H', ⟨by first | omega | exact Nat.le_refl _⟩, ⟨by repeat (first | (with_reducible first | exact HB.out | apply below_alloc | apply pw_below_drewN | apply below_drew1) | exact HB.out)⟩⟩
        · rw [if_neg c10] at H
          have c10b0 : decide (a1 < 0) = false := decide_eq_false c10
          clear c10
          (first | rw [c10b0] | (simp only [i64_w, i32_w]; rw [c10b0]) | skip)
          have H' := Aside0.mk H
          clear H
          go_wp2_with (first | ((with_reducible refine gate_callee (f := 11) rfl ?_); refine goesL_ (some 16) rfl rfl Try.func11 (by kernel_rfl) rfl #[] rfl (by (try simp only [List.map_toArray, List.map_cons, List.map_nil]); first | done | rfl | (simp only [List.length_drop, List.length_take]; rfl)) ?_; (with_reducible refine (gantletlaw09_awake.calls k  true _ A5.out).mono ?_); rintro e w12 ⟨rfl, hb⟩; refine ⟨_, rfl, ?_⟩; have n0_ := Aside0.mk (below_step (by repeat (first | (with_reducible first | exact HB.out | apply below_alloc | apply pw_below_drewN | apply below_drew1) | exact HB.out)) hb); clear HB; have HB := n0_; clear n0_; (try clear hb); (try clear hb2); (try clear hk); (try clear hi)) | (go_at_call 12; (with_reducible refine (gantletlaw09_great.calls a0 false _ A7.out).mono ?_); rintro e w' ⟨rfl, ⟨nd, rfl⟩⟩))
          go_meet
          case rel => exact ⟨_, (decide (a1 > (a0.size : Int))), (by first | rfl | (simp; done) | (simp [*]; done) | (simp [show ∀ l : List UInt8, (!l.isEmpty) = (l != []) from fun l => by cases l <;> rfl]; done)), H', ⟨by first | omega | exact Nat.le_refl _⟩, ⟨by repeat (first | (with_reducible first | exact HB.out | apply below_alloc | apply pw_below_drewN | apply below_drew1) | exact HB.out)⟩⟩
    · replace c6 := Bool.eq_false_iff.mpr c6
      subst c6
      have H1 : (gantletlaw09_EventFront.j0 k a0 a1 a2 true) = some r := by rw [if_neg (show ¬ (false = true) by decide)] at H; exact H
      clear H
      have H := H1
      clear H1
      have H' := Aside0.mk H
      clear H
      go_wp2_with (first | ((with_reducible refine gate_callee (f := 11) rfl ?_); refine goesL_ (some 16) rfl rfl Try.func11 (by kernel_rfl) rfl #[] rfl (by (try simp only [List.map_toArray, List.map_cons, List.map_nil]); first | done | rfl | (simp only [List.length_drop, List.length_take]; rfl)) ?_; (with_reducible refine (gantletlaw09_awake.calls k  false _ A5.out).mono ?_); rintro e w13 ⟨rfl, hb⟩; refine ⟨_, rfl, ?_⟩; have n0_ := Aside0.mk (below_step (by repeat (first | (with_reducible first | exact HB.out | apply below_alloc | apply pw_below_drewN | apply below_drew1) | exact HB.out)) hb); clear HB; have HB := n0_; clear n0_; (try clear hb); (try clear hb2); (try clear hk); (try clear hi)))
      go_meet
      case rel => exact ⟨_, (true), (by first | rfl | (simp; done) | (simp [*]; done) | (simp [show ∀ l : List UInt8, (!l.isEmpty) = (l != []) from fun l => by cases l <;> rfl]; done)), H', ⟨by first | omega | exact Nat.le_refl _⟩, ⟨by repeat (first | (with_reducible first | exact HB.out | apply below_alloc | apply pw_below_drewN | apply below_drew1) | exact HB.out)⟩⟩
  case rest =>
    clear HC4
    try clear c1
    try clear p2
    try clear c4
    try clear c6
    try clear c8
    try clear c10
    try clear c10b0
    try clear c11
    obtain ⟨kq, x31_3, rfl, HA, HJ3, HB⟩ := hcut
    cases kq with
    | zero => exact absurd HA.out (by simp [gantletlaw09_EventFront.j0])
    | succ kj3 =>
      have H := HA.out
      clear HA
      simp only [gantletlaw09_EventFront.j0] at H
      by_cases c14 : x31_3 = true
      · subst c14
        have H1 : ((gantletlaw09_awake.f kj3).bind fun t128 => (some t128)) = some r := by rw [if_pos rfl] at H; exact H
        clear H
        have H := H1
        clear H1
        replace H := Option.bind_eq_some_iff.mp H
        obtain ⟨t128, A150, H⟩ := H
        replace H : (some t128) = some r := H
        have A15 := Aside0.mk A150
        clear A150
        obtain rfl := Option.some.inj H
        go_wp2_with (first | ((with_reducible refine gate_callee (f := 11) rfl ?_); refine goesL_ (some 32) rfl rfl Try.func11 (by kernel_rfl) rfl #[] rfl (by (try simp only [List.map_toArray, List.map_cons, List.map_nil]); first | done | rfl | (simp only [List.length_drop, List.length_take]; rfl)) ?_; (with_reducible refine (gantletlaw09_awake.calls kj3  t128 _ A15.out).mono ?_); rintro e w16 ⟨rfl, hb⟩; refine ⟨_, rfl, ?_⟩; have n0_ := Aside0.mk (below_step (by repeat (first | (with_reducible first | exact HB.out | apply below_alloc | apply pw_below_drewN | apply below_drew1) | exact HB.out)) hb); clear HB; have HB := n0_; clear n0_; (try clear hb); (try clear hb2); (try clear hk); (try clear hi)))
        go_ret
        exact ⟨by first | rfl | (simp [errW_none, errW_some] <;> rfl) | (simp [*, errW_none, errW_some] <;> rfl), by repeat (first | (with_reducible first | exact HB.out | apply below_alloc | apply pw_below_drewN | apply below_drew1) | exact HB.out)⟩
      · replace c14 := Bool.eq_false_iff.mpr c14
        subst c14
        have H1 : ((event_Whole.f a0 a2).bind fun bt129 => (if 0 ≤ a1 then (if a1 ≤ (a0.size : Int) then ((event_Whole.f (a0.extract 0 (a1 : Int).toNat) a2).bind fun bt134 => (gantletlaw09_EventFront.l0 kj3 a1 bt134.1 bt134.2.1 bt134.2.2 ([] : List (S36)) bt129.1 (bt129.1.length : Int) 0)) else (none)) else (none))) = some r := by rw [if_neg (show ¬ (false = true) by decide)] at H; exact H
        clear H
        have H := H1
        clear H1
        replace H := Option.bind_eq_some_iff.mp H
        obtain ⟨⟨t129, t130, t131⟩, A170, H⟩ := H
        replace H : (if 0 ≤ a1 then (if a1 ≤ (a0.size : Int) then ((event_Whole.f (a0.extract 0 (a1 : Int).toNat) a2).bind fun bt134 => (gantletlaw09_EventFront.l0 kj3 a1 bt134.1 bt134.2.1 bt134.2.2 ([] : List (S36)) t129 (t129.length : Int) 0)) else (none)) else (none)) = some r := H
        have A17 := Aside0.mk A170
        clear A170
        by_cases c18 : 0 ≤ a1
        · rw [if_pos c18] at H
          have c18b0 := eq_true c18
          have c18b1 : decide (0 ≤ a1) = true := decide_eq_true c18
          clear c18
          by_cases c19 : a1 ≤ (a0.size : Int)
          · rw [if_pos c19] at H
            have c19b0 := eq_true c19
            have c19b1 : decide (a1 ≤ (a0.size : Int)) = true := decide_eq_true c19
            clear c19
            replace H := Option.bind_eq_some_iff.mp H
            obtain ⟨⟨t134, t135, t136⟩, A200, H⟩ := H
            replace H : (gantletlaw09_EventFront.l0 kj3 a1 t134 t135 t136 ([] : List (S36)) t129 (t129.length : Int) 0) = some r := H
            have A20 := Aside0.mk A200
            clear A200
            have H' := Aside0.mk H
            clear H
            go_wp2_with (first | ((with_reducible refine gate_callee (f := 13) rfl ?_); refine goesL_ (some 36) rfl rfl Try.func13 (by kernel_rfl) rfl #[.string a0, .int .i64 a2] rfl (by (try simp only [List.map_toArray, List.map_cons, List.map_nil]); first | done | rfl | (simp only [List.length_drop, List.length_take]; rfl)) ?_; (with_reducible refine (event_Whole.calls a0 a2 t129 t130 t131 _ A17.out).mono ?_); rintro e w21 ⟨v132, rfl, ho0, hb⟩; refine ⟨_, rfl, ?_⟩; have n0_ := Aside0.mk (Kd.R_lower ho0 (below_size (by repeat (first | (with_reducible first | exact HB.out | apply below_alloc | apply pw_below_drewN | apply below_drew1) | exact HB.out)))); have n1_ := Aside0.mk (below_step (by repeat (first | (with_reducible first | exact HB.out | apply below_alloc | apply pw_below_drewN | apply below_drew1) | exact HB.out)) hb); clear HB; have HO133 := n0_; have HB := n1_; clear n0_ n1_; (try clear hb); (try clear hb2); (try clear hk); (try clear hi); (try clear ho0)) | ((with_reducible refine gate_callee (f := 13) rfl ?_); refine goesL_ (some 45) rfl rfl Try.func13 (by kernel_rfl) rfl #[.string (a0.extract 0 (a1 : Int).toNat), .int .i64 a2] rfl (by (try simp only [List.map_toArray, List.map_cons, List.map_nil]); first | done | rfl | (simp only [List.length_drop, List.length_take]; rfl)) ?_; (with_reducible refine (event_Whole.calls (a0.extract 0 (a1 : Int).toNat) a2 t134 t135 t136 _ A20.out).mono ?_); rintro e w22 ⟨v137, rfl, ho0, hb⟩; refine ⟨_, rfl, ?_⟩; have n0_ := Aside0.mk (Kd.R_elder' (by (with_reducible repeat (first | apply Kd.R_alloc | apply Kd.R_drewN | apply Kd.R_drew)); exact HO133.out) (Kd.R_base ho0) hb); have n1_ := Aside0.mk (Kd.R_lower (Kd.R_new' ho0 (Kd.R_lt (by (with_reducible repeat (first | apply Kd.R_alloc | apply Kd.R_drewN | apply Kd.R_drew)); exact HO133.out))) (below_size (by repeat (first | (with_reducible first | exact HB.out | apply below_alloc | apply pw_below_drewN | apply below_drew1) | exact HB.out)))); have n2_ := Aside0.mk (below_step (by repeat (first | (with_reducible first | exact HB.out | apply below_alloc | apply pw_below_drewN | apply below_drew1) | exact HB.out)) hb); clear HO133; clear HB; have HO133 := n0_; have HO138 := n1_; have HB := n2_; clear n0_ n1_ n2_; (try clear hb); (try clear hb2); (try clear hk); (try clear hi); (try clear ho0); obtain ⟨Ao23, co23, eo23⟩ := Kd.R_slice HO133.out; subst eo23))
            go_loopg [13, 51] kj3 (fun kq v13 v51 w' => ∃ (x13_2 : List (S36)) (x51_2 : Int), v51 = .int .i64 x51_2 ∧ Aside0 (gantletlaw09_EventFront.l0 kq a1 t134 t135 t136 x13_2 t129 (t129.length : Int) x51_2 = some r) ∧ Aside0 (kq ≤ kj3) ∧ Aside0 (Kd.R k36 36 w' w.heap.size (fun k_ => some k_ ≠ (v13 : Value).ownBlock ∧ some k_ ≠ ((.slice Ao23 t129.length co23) : Value).ownBlock) v137 t134) ∧ Aside0 (Kd.R k36 36 w' w.heap.size (fun k_ => some k_ ≠ (v137 : Value).ownBlock ∧ some k_ ≠ ((.slice Ao23 t129.length co23) : Value).ownBlock) v13 x13_2) ∧ Aside0 (Kd.R k36 36 w' w.heap.size (fun k_ => some k_ ≠ (v137 : Value).ownBlock ∧ some k_ ≠ (v13 : Value).ownBlock) (.slice Ao23 t129.length co23) t129) ∧ Aside0 (Below w.heap.size w w'))
            case atStart => exact ⟨(([] : List (S36))), (0), (by first | rfl | (simp; done) | (simp [*]; done) | (simp [show ∀ l : List UInt8, (!l.isEmpty) = (l != []) from fun l => by cases l <;> rfl]; done)), H', ⟨Nat.le_refl _⟩, ⟨by (with_reducible repeat (first | apply Kd.R_alloc | apply Kd.R_drewN | apply Kd.R_drew)); exact Kd.R_mono HO138.out (fun _ hk => ⟨(by simp [Value.ownBlock]), hk.2⟩)⟩, ⟨by first | exact Kd.R_nil _ _ _ _ _ | exact Kd.N_nil _ _ _ _ _ | exact Kd.V_nil _ _ _ _ _ | exact Kd.Q_nil _ _ _ _ _ | exact Kd.S_nil _ _ _ _ _⟩, ⟨by (with_reducible repeat (first | apply Kd.R_alloc | apply Kd.R_drewN | apply Kd.R_drew)); exact Kd.R_mono HO133.out (fun _ hk => ⟨hk.2, (by simp [Value.ownBlock])⟩)⟩, ⟨by repeat (first | (with_reducible first | exact HB.out | apply below_alloc | apply pw_below_drewN | apply below_drew1) | exact HB.out)⟩⟩
            case round =>
              clear H'
              try clear c1
              try clear p2
              try clear c4
              try clear c6
              try clear c8
              try clear c10
              try clear c10b0
              try clear c11
              try clear c13
              try clear c14
              try clear c18
              try clear c18b0
              try clear c18b1
              try clear c19
              try clear c19b0
              try clear c19b1
              try clear p2
              obtain ⟨x13_2, x51_2, rfl, HA, HK2, HO_10, HO_13, HO_49, HB⟩ := hrel
              cases gk with
              | zero => exact absurd HA.out (by simp [gantletlaw09_EventFront.l0])
              | succ k2 =>
                have H := HA.out
                clear HA
                simp only [gantletlaw09_EventFront.l0] at H
                by_cases c24 : x51_2 < (t129.length : Int)
                · rw [if_pos c24] at H
                  have c24b0 : decide (x51_2 < (t129.length : Int)) = true := decide_eq_true c24
                  clear c24
                  by_cases c25 : 0 ≤ x51_2
                  · rw [if_pos c25] at H
                    have c25b0 : decide (0 ≤ x51_2) = true := decide_eq_true c25
                    clear c25
                    by_cases c26 : x51_2 < (t129.length : Int)
                    · rw [if_pos c26] at H
                      have c26b0 : decide (x51_2 < (t129.length : Int)) = true := decide_eq_true c26
                      clear c26
                      by_cases c27 : ((rd_T36 t129 x51_2).f1) < a1
                      · rw [if_pos c27] at H
                        have c27b0 : decide (((rd_T36 t129 x51_2).f1) < a1) = true := decide_eq_true c27
                        clear c27
                        by_cases c28 : x13_2.length < 2513169434916
                        · rw [if_pos c28] at H
                          have LMc28 := Aside0.mk c28
                          clear c28
                          obtain ⟨y141, hy141⟩ : ∃ y_ : List (S36), y_ = (x13_2 ++ [(⟨(rd_T36 t129 x51_2).f0, (rd_T36 t129 x51_2).f1, (⟨(rd_T36 t129 x51_2).f2.f0, (rd_T36 t129 x51_2).f2.f1, (rd_T36 t129 x51_2).f2.f2, (rd_T36 t129 x51_2).f2.f3⟩ : S34), (rd_T36 t129 x51_2).f3⟩ : S36)]) := ⟨_, rfl⟩
                          replace H : (gantletlaw09_EventFront.l0 k2 a1 t134 t135 t136 y141 t129 (t129.length : Int) (wrap64 (x51_2 + 1))) = some r := by first | (rw [hy141]; with_reducible exact H) | (have H2_ := (Option.bind_some _ _).symm.trans H; rw [hy141]; with_reducible exact H2_) | (have H2_ := (Option.bind_some _ _).symm.trans H; with_reducible exact H2_) | with_reducible exact H | (rw [hy141]; exact H) | exact H
                          have Ny141 := Aside0.mk hy141
                          clear hy141
                          have H' := Aside0.mk H
                          clear H
                          have p139 : 0 ≤ (x51_2 : Int) := of_decide_eq_true (by first | (with_reducible assumption) | assumption)
                          have q139 : x51_2 < (t129.length : Int) := of_decide_eq_true (by first | (with_reducible assumption) | assumption)
                          obtain ⟨ad139, e139, hx139_0, hx139_1, hx139_2, hx139_3, hx139_4, hx139_5, hx139_6⟩ := at_T36 (Kd.R_reads' HO_49.out).2.2 x51_2 p139 q139
                          cases e139
                          replace p139 := eq_true p139
                          replace q139 := eq_true q139
                          go_wp2_with (first | ((with_reducible refine gate_dst (N := 15) rfl ?_); (try (refine gate_guard (by rfl) ?_; dsimp only)); refine box_event ?hg (N := 15) ?hd (cs := #[.int .i64 0, .int .i64 0, .int .i64 0, .int .i64 0, .bool false, .int .i64 0, .int .u8 0]) (t := 36) ?hr ?_; (case hd => rfl); (case hg => rfl); (case hr => first | (go_simp; done) | (go_simp; rfl)); intro gb140 hg w29 hbox hb; have n0_ := Aside0.mk (Kd.R_below (Kd.R_elderB (by (with_reducible repeat (first | apply Kd.R_alloc | apply Kd.R_drewN | apply Kd.R_drew)); exact HO_10.out) gb140 (Nat.le_of_eq hg.symm)) hb); have n1_ := Aside0.mk (Kd.R_below (Kd.R_elderB (by (with_reducible repeat (first | apply Kd.R_alloc | apply Kd.R_drewN | apply Kd.R_drew)); exact HO_13.out) gb140 (Nat.le_of_eq hg.symm)) hb); have n2_ := Aside0.mk (Kd.R_below (Kd.R_elderB (by (with_reducible repeat (first | apply Kd.R_alloc | apply Kd.R_drewN | apply Kd.R_drew)); exact HO_49.out) gb140 (Nat.le_of_eq hg.symm)) hb); have n3_ := Aside0.mk (below_step (by repeat (first | (with_reducible first | exact HB.out | apply below_alloc | apply pw_below_drewN | apply below_drew1) | exact HB.out)) hb); have n4_ := Aside0.mk (hbox); have n5_ := Aside0.mk ((by rw [hg]; exact (below_size (by repeat (first | (with_reducible first | exact HB.out | apply below_alloc | apply pw_below_drewN | apply below_drew1) | exact HB.out))) : w.heap.size ≤ gb140)); have n6_ := Aside0.mk ((by rw [hg]; exact (below_size (by repeat (first | (with_reducible first | exact HB.out | apply below_alloc | apply pw_below_drewN | apply below_drew1) | exact HB.out))) : w.heap.size ≤ gb140)); clear HO_10; clear HO_13; clear HO_49; clear HB; have HO_10 := n0_; have HO_13 := n1_; have HO_49 := n2_; have HB := n3_; have BK140 := n4_; have GW140 := n5_; have GE140 := n6_; clear n0_ n1_ n2_ n3_ n4_ n5_ n6_; clear hb hbox hg; have hcz30_0 : w29.cell? ⟨gb140, 0, none⟩ = some (.int .i64 0) := (blk_cell BK140.out 0).trans rfl; have hcz30_1 : w29.cell? ⟨gb140, 1, none⟩ = some (.int .i64 0) := (blk_cell BK140.out 1).trans rfl; have hcz30_2 : w29.cell? ⟨gb140, 2, none⟩ = some (.int .i64 0) := (blk_cell BK140.out 2).trans rfl; have hcz30_3 : w29.cell? ⟨gb140, 3, none⟩ = some (.int .i64 0) := (blk_cell BK140.out 3).trans rfl; have hcz30_4 : w29.cell? ⟨gb140, 4, none⟩ = some (.bool false) := (blk_cell BK140.out 4).trans rfl; have hcz30_5 : w29.cell? ⟨gb140, 5, none⟩ = some (.int .i64 0) := (blk_cell BK140.out 5).trans rfl; have hcz30_6 : w29.cell? ⟨gb140, 6, none⟩ = some (.int .u8 0) := (blk_cell BK140.out 6).trans rfl; have hfz30_0 := blk_frozen BK140.out 0; have hfz30_1 := blk_frozen BK140.out 1; have hfz30_2 := blk_frozen BK140.out 2; have hfz30_3 := blk_frozen BK140.out 3; have hfz30_4 := blk_frozen BK140.out 4; have hfz30_5 := blk_frozen BK140.out 5; have hfz30_6 := blk_frozen BK140.out 6) | ((with_reducible refine gate_builtin (b := .append) (xs := #[.tmp 59, .tmp 61]) rfl ?_); (try (refine gate_guard (by rfl) ?_; dsimp only)); at_builtin; refine Kd.R_append k36 (w0 := w) w.heap.size rfl (.tmp 59) (.tmp 61) 24 36 (.agg #[(.int .i64 0), (.int .i64 0), (.int .i64 0), (.int .i64 0), (.bool false), (.int .i64 0), (.int .u8 0)]) 56 rfl Try.underlying24 info36 rfl (by decide) (by omega) u13 x13_2 (⟨(rd_T36 t129 x51_2).f0, (rd_T36 t129 x51_2).f1, (⟨(rd_T36 t129 x51_2).f2.f0, (rd_T36 t129 x51_2).f2.f1, (rd_T36 t129 x51_2).f2.f2, (rd_T36 t129 x51_2).f2.f3⟩ : S34), (rd_T36 t129 x51_2).f3⟩ : S36) [.int .i64 ((rd_T36 t129 x51_2).f0), .int .i64 ((rd_T36 t129 x51_2).f1), .int .i64 ((rd_T36 t129 x51_2).f2.f0), .int .i64 ((rd_T36 t129 x51_2).f2.f1), .bool ((rd_T36 t129 x51_2).f2.f2), .int .i64 ((rd_T36 t129 x51_2).f2.f3), .int .u8 ((rd_T36 t129 x51_2).f3)] (fun k_ => some k_ ≠ (v137 : Value).ownBlock ∧ some k_ ≠ (.slice (some ad139) t129.length co23 : Value).ownBlock ∧ k_ ≠ gb140) (fun _ => False) rfl (by first | (go_simp; done) | (go_simp; rfl)) ?aP (fun _ hk => hk.elim) ?aF ?aO ?aB ?aS ?aL ?_; (case aP => exact k36_mkM _ _ _ (⟨(rd_T36 t129 x51_2).f0, (rd_T36 t129 x51_2).f1, (⟨(rd_T36 t129 x51_2).f2.f0, (rd_T36 t129 x51_2).f2.f1, (rd_T36 t129 x51_2).f2.f2, (rd_T36 t129 x51_2).f2.f3⟩ : S34), (rd_T36 t129 x51_2).f3⟩ : S36)); (case aB => exact (by repeat (first | (with_reducible first | exact HB.out | apply below_alloc | apply pw_below_drewN | apply below_drew1 | refine below_set ?_ GE140.out) | exact HB.out))); (case aF => exact (fun k_ hk => ⟨Kd.fresh' (Kd.R_lt (by (with_reducible repeat (first | apply Kd.R_alloc | apply Kd.R_drewN | apply Kd.R_drew)); exact (Kd.R_mono (Kd.R_far (p := ⟨gb140, 6, none⟩) (Kd.R_far (p := ⟨gb140, 5, none⟩) (Kd.R_far (p := ⟨gb140, 4, none⟩) (Kd.R_far (p := ⟨gb140, 3, none⟩) (Kd.R_far (p := ⟨gb140, 2, none⟩) (Kd.R_far (p := ⟨gb140, 1, none⟩) (Kd.R_far (p := ⟨gb140, 0, none⟩) (Kd.R_mono HO_10.out (fun k_ hk => (⟨hk, hk.2⟩ : _ ∧ k_ ≠ gb140))) (fun _ hk => hk.2) (.int .i64 ((rd_T36 t129 x51_2).f0))) (fun _ hk => hk.2) (.int .i64 ((rd_T36 t129 x51_2).f1))) (fun _ hk => hk.2) (.int .i64 ((rd_T36 t129 x51_2).f2.f0))) (fun _ hk => hk.2) (.int .i64 ((rd_T36 t129 x51_2).f2.f1))) (fun _ hk => hk.2) (.bool ((rd_T36 t129 x51_2).f2.f2))) (fun _ hk => hk.2) (.int .i64 ((rd_T36 t129 x51_2).f2.f3))) (fun _ hk => hk.2) (.int .u8 ((rd_T36 t129 x51_2).f3))) (fun _ h_ => h_.1)))) k_ hk, Kd.fresh' (Kd.R_lt (by (with_reducible repeat (first | apply Kd.R_alloc | apply Kd.R_drewN | apply Kd.R_drew)); exact (Kd.R_mono (Kd.R_far (p := ⟨gb140, 6, none⟩) (Kd.R_far (p := ⟨gb140, 5, none⟩) (Kd.R_far (p := ⟨gb140, 4, none⟩) (Kd.R_far (p := ⟨gb140, 3, none⟩) (Kd.R_far (p := ⟨gb140, 2, none⟩) (Kd.R_far (p := ⟨gb140, 1, none⟩) (Kd.R_far (p := ⟨gb140, 0, none⟩) (Kd.R_mono HO_49.out (fun k_ hk => (⟨hk, hk.2⟩ : _ ∧ k_ ≠ gb140))) (fun _ hk => hk.2) (.int .i64 ((rd_T36 t129 x51_2).f0))) (fun _ hk => hk.2) (.int .i64 ((rd_T36 t129 x51_2).f1))) (fun _ hk => hk.2) (.int .i64 ((rd_T36 t129 x51_2).f2.f0))) (fun _ hk => hk.2) (.int .i64 ((rd_T36 t129 x51_2).f2.f1))) (fun _ hk => hk.2) (.bool ((rd_T36 t129 x51_2).f2.f2))) (fun _ hk => hk.2) (.int .i64 ((rd_T36 t129 x51_2).f2.f3))) (fun _ hk => hk.2) (.int .u8 ((rd_T36 t129 x51_2).f3))) (fun _ h_ => h_.1)))) k_ hk, Kd.freshB (g := gb140) (o := .cells #[.int .i64 ((rd_T36 t129 x51_2).f0), .int .i64 ((rd_T36 t129 x51_2).f1), .int .i64 ((rd_T36 t129 x51_2).f2.f0), .int .i64 ((rd_T36 t129 x51_2).f2.f1), .bool ((rd_T36 t129 x51_2).f2.f2), .int .i64 ((rd_T36 t129 x51_2).f2.f3), .int .u8 ((rd_T36 t129 x51_2).f3)] 36 (0, 0)) (by (with_reducible repeat (first | refine blk_drewN ?_ _ | refine blk_drew ?_ | refine blk_alloc ?_ _)); refine blk_put (cs := #[.int .i64 ((rd_T36 t129 x51_2).f0), .int .i64 ((rd_T36 t129 x51_2).f1), .int .i64 ((rd_T36 t129 x51_2).f2.f0), .int .i64 ((rd_T36 t129 x51_2).f2.f1), .bool ((rd_T36 t129 x51_2).f2.f2), .int .i64 ((rd_T36 t129 x51_2).f2.f3), .int .u8 0]) ?_ 6 _ rfl; (with_reducible repeat (first | refine blk_drewN ?_ _ | refine blk_drew ?_ | refine blk_alloc ?_ _)); refine blk_put (cs := #[.int .i64 ((rd_T36 t129 x51_2).f0), .int .i64 ((rd_T36 t129 x51_2).f1), .int .i64 ((rd_T36 t129 x51_2).f2.f0), .int .i64 ((rd_T36 t129 x51_2).f2.f1), .bool ((rd_T36 t129 x51_2).f2.f2), .int .i64 0, .int .u8 0]) ?_ 5 _ rfl; (with_reducible repeat (first | refine blk_drewN ?_ _ | refine blk_drew ?_ | refine blk_alloc ?_ _)); refine blk_put (cs := #[.int .i64 ((rd_T36 t129 x51_2).f0), .int .i64 ((rd_T36 t129 x51_2).f1), .int .i64 ((rd_T36 t129 x51_2).f2.f0), .int .i64 ((rd_T36 t129 x51_2).f2.f1), .bool false, .int .i64 0, .int .u8 0]) ?_ 4 _ rfl; (with_reducible repeat (first | refine blk_drewN ?_ _ | refine blk_drew ?_ | refine blk_alloc ?_ _)); refine blk_put (cs := #[.int .i64 ((rd_T36 t129 x51_2).f0), .int .i64 ((rd_T36 t129 x51_2).f1), .int .i64 ((rd_T36 t129 x51_2).f2.f0), .int .i64 0, .bool false, .int .i64 0, .int .u8 0]) ?_ 3 _ rfl; (with_reducible repeat (first | refine blk_drewN ?_ _ | refine blk_drew ?_ | refine blk_alloc ?_ _)); refine blk_put (cs := #[.int .i64 ((rd_T36 t129 x51_2).f0), .int .i64 ((rd_T36 t129 x51_2).f1), .int .i64 0, .int .i64 0, .bool false, .int .i64 0, .int .u8 0]) ?_ 2 _ rfl; (with_reducible repeat (first | refine blk_drewN ?_ _ | refine blk_drew ?_ | refine blk_alloc ?_ _)); refine blk_put (cs := #[.int .i64 ((rd_T36 t129 x51_2).f0), .int .i64 0, .int .i64 0, .int .i64 0, .bool false, .int .i64 0, .int .u8 0]) ?_ 1 _ rfl; (with_reducible repeat (first | refine blk_drewN ?_ _ | refine blk_drew ?_ | refine blk_alloc ?_ _)); refine blk_put (cs := #[.int .i64 0, .int .i64 0, .int .i64 0, .int .i64 0, .bool false, .int .i64 0, .int .u8 0]) ?_ 0 _ rfl; (with_reducible repeat (first | refine blk_drewN ?_ _ | refine blk_drew ?_ | refine blk_alloc ?_ _)); exact BK140.out) k_ hk⟩)); (case aO => exact (by (with_reducible repeat (first | apply Kd.R_alloc | apply Kd.R_drewN | apply Kd.R_drew)); exact Kd.R_mono (Kd.R_far (p := ⟨gb140, 6, none⟩) (Kd.R_far (p := ⟨gb140, 5, none⟩) (Kd.R_far (p := ⟨gb140, 4, none⟩) (Kd.R_far (p := ⟨gb140, 3, none⟩) (Kd.R_far (p := ⟨gb140, 2, none⟩) (Kd.R_far (p := ⟨gb140, 1, none⟩) (Kd.R_far (p := ⟨gb140, 0, none⟩) (Kd.R_mono HO_13.out (fun k_ hk => (⟨hk, hk.2⟩ : _ ∧ k_ ≠ gb140))) (fun _ hk => hk.2) (.int .i64 ((rd_T36 t129 x51_2).f0))) (fun _ hk => hk.2) (.int .i64 ((rd_T36 t129 x51_2).f1))) (fun _ hk => hk.2) (.int .i64 ((rd_T36 t129 x51_2).f2.f0))) (fun _ hk => hk.2) (.int .i64 ((rd_T36 t129 x51_2).f2.f1))) (fun _ hk => hk.2) (.bool ((rd_T36 t129 x51_2).f2.f2))) (fun _ hk => hk.2) (.int .i64 ((rd_T36 t129 x51_2).f2.f3))) (fun _ hk => hk.2) (.int .u8 ((rd_T36 t129 x51_2).f3))) (fun _ hk => ⟨hk.1.1.1, ⟨hk.1.1.2, hk.1.2⟩⟩))); (case aS => exact (below_size (by repeat (first | (with_reducible first | exact HB.out | apply below_alloc | apply pw_below_drewN | apply below_drew1 | refine below_set ?_ GE140.out) | exact HB.out)))); (case aL => have := LMc28.out; omega); intro v142 w31 ho hb hg hat; rw [← Ny141.out] at ho; have n0_ := Aside0.mk (Kd.R_after (ok := (fun k_ => some k_ ≠ (.slice (some ad139) t129.length co23 : Value).ownBlock ∧ k_ ≠ gb140)) (by (with_reducible repeat (first | apply Kd.R_alloc | apply Kd.R_drewN | apply Kd.R_drew)); exact Kd.R_mono (Kd.R_far (p := ⟨gb140, 6, none⟩) (Kd.R_far (p := ⟨gb140, 5, none⟩) (Kd.R_far (p := ⟨gb140, 4, none⟩) (Kd.R_far (p := ⟨gb140, 3, none⟩) (Kd.R_far (p := ⟨gb140, 2, none⟩) (Kd.R_far (p := ⟨gb140, 1, none⟩) (Kd.R_far (p := ⟨gb140, 0, none⟩) (Kd.R_mono HO_10.out (fun k_ hk => (⟨hk, hk.2⟩ : _ ∧ k_ ≠ gb140))) (fun _ hk => hk.2) (.int .i64 ((rd_T36 t129 x51_2).f0))) (fun _ hk => hk.2) (.int .i64 ((rd_T36 t129 x51_2).f1))) (fun _ hk => hk.2) (.int .i64 ((rd_T36 t129 x51_2).f2.f0))) (fun _ hk => hk.2) (.int .i64 ((rd_T36 t129 x51_2).f2.f1))) (fun _ hk => hk.2) (.bool ((rd_T36 t129 x51_2).f2.f2))) (fun _ hk => hk.2) (.int .i64 ((rd_T36 t129 x51_2).f2.f3))) (fun _ hk => hk.2) (.int .u8 ((rd_T36 t129 x51_2).f3))) (fun _ hk => ⟨⟨hk.1.1.2, hk.1.2⟩, hk.1.1.1⟩)) hg hat); have n1_ := Aside0.mk (Kd.R_after (ok := (fun k_ => some k_ ≠ (v137 : Value).ownBlock ∧ k_ ≠ gb140)) (by (with_reducible repeat (first | apply Kd.R_alloc | apply Kd.R_drewN | apply Kd.R_drew)); exact Kd.R_mono (Kd.R_far (p := ⟨gb140, 6, none⟩) (Kd.R_far (p := ⟨gb140, 5, none⟩) (Kd.R_far (p := ⟨gb140, 4, none⟩) (Kd.R_far (p := ⟨gb140, 3, none⟩) (Kd.R_far (p := ⟨gb140, 2, none⟩) (Kd.R_far (p := ⟨gb140, 1, none⟩) (Kd.R_far (p := ⟨gb140, 0, none⟩) (Kd.R_mono HO_49.out (fun k_ hk => (⟨hk, hk.2⟩ : _ ∧ k_ ≠ gb140))) (fun _ hk => hk.2) (.int .i64 ((rd_T36 t129 x51_2).f0))) (fun _ hk => hk.2) (.int .i64 ((rd_T36 t129 x51_2).f1))) (fun _ hk => hk.2) (.int .i64 ((rd_T36 t129 x51_2).f2.f0))) (fun _ hk => hk.2) (.int .i64 ((rd_T36 t129 x51_2).f2.f1))) (fun _ hk => hk.2) (.bool ((rd_T36 t129 x51_2).f2.f2))) (fun _ hk => hk.2) (.int .i64 ((rd_T36 t129 x51_2).f2.f3))) (fun _ hk => hk.2) (.int .u8 ((rd_T36 t129 x51_2).f3))) (fun _ hk => ⟨⟨hk.1.1.1, hk.1.2⟩, hk.1.1.2⟩)) hg hat); have n2_ := Aside0.mk (blk_grown (g := gb140) (o := .cells #[.int .i64 ((rd_T36 t129 x51_2).f0), .int .i64 ((rd_T36 t129 x51_2).f1), .int .i64 ((rd_T36 t129 x51_2).f2.f0), .int .i64 ((rd_T36 t129 x51_2).f2.f1), .bool ((rd_T36 t129 x51_2).f2.f2), .int .i64 ((rd_T36 t129 x51_2).f2.f3), .int .u8 ((rd_T36 t129 x51_2).f3)] 36 (0, 0)) (by (with_reducible repeat (first | refine blk_drewN ?_ _ | refine blk_drew ?_ | refine blk_alloc ?_ _)); refine blk_put (cs := #[.int .i64 ((rd_T36 t129 x51_2).f0), .int .i64 ((rd_T36 t129 x51_2).f1), .int .i64 ((rd_T36 t129 x51_2).f2.f0), .int .i64 ((rd_T36 t129 x51_2).f2.f1), .bool ((rd_T36 t129 x51_2).f2.f2), .int .i64 ((rd_T36 t129 x51_2).f2.f3), .int .u8 0]) ?_ 6 _ rfl; (with_reducible repeat (first | refine blk_drewN ?_ _ | refine blk_drew ?_ | refine blk_alloc ?_ _)); refine blk_put (cs := #[.int .i64 ((rd_T36 t129 x51_2).f0), .int .i64 ((rd_T36 t129 x51_2).f1), .int .i64 ((rd_T36 t129 x51_2).f2.f0), .int .i64 ((rd_T36 t129 x51_2).f2.f1), .bool ((rd_T36 t129 x51_2).f2.f2), .int .i64 0, .int .u8 0]) ?_ 5 _ rfl; (with_reducible repeat (first | refine blk_drewN ?_ _ | refine blk_drew ?_ | refine blk_alloc ?_ _)); refine blk_put (cs := #[.int .i64 ((rd_T36 t129 x51_2).f0), .int .i64 ((rd_T36 t129 x51_2).f1), .int .i64 ((rd_T36 t129 x51_2).f2.f0), .int .i64 ((rd_T36 t129 x51_2).f2.f1), .bool false, .int .i64 0, .int .u8 0]) ?_ 4 _ rfl; (with_reducible repeat (first | refine blk_drewN ?_ _ | refine blk_drew ?_ | refine blk_alloc ?_ _)); refine blk_put (cs := #[.int .i64 ((rd_T36 t129 x51_2).f0), .int .i64 ((rd_T36 t129 x51_2).f1), .int .i64 ((rd_T36 t129 x51_2).f2.f0), .int .i64 0, .bool false, .int .i64 0, .int .u8 0]) ?_ 3 _ rfl; (with_reducible repeat (first | refine blk_drewN ?_ _ | refine blk_drew ?_ | refine blk_alloc ?_ _)); refine blk_put (cs := #[.int .i64 ((rd_T36 t129 x51_2).f0), .int .i64 ((rd_T36 t129 x51_2).f1), .int .i64 0, .int .i64 0, .bool false, .int .i64 0, .int .u8 0]) ?_ 2 _ rfl; (with_reducible repeat (first | refine blk_drewN ?_ _ | refine blk_drew ?_ | refine blk_alloc ?_ _)); refine blk_put (cs := #[.int .i64 ((rd_T36 t129 x51_2).f0), .int .i64 0, .int .i64 0, .int .i64 0, .bool false, .int .i64 0, .int .u8 0]) ?_ 1 _ rfl; (with_reducible repeat (first | refine blk_drewN ?_ _ | refine blk_drew ?_ | refine blk_alloc ?_ _)); refine blk_put (cs := #[.int .i64 0, .int .i64 0, .int .i64 0, .int .i64 0, .bool false, .int .i64 0, .int .u8 0]) ?_ 0 _ rfl; (with_reducible repeat (first | refine blk_drewN ?_ _ | refine blk_drew ?_ | refine blk_alloc ?_ _)); exact BK140.out) hg (Kd.R_away HO_13.out (fun _ hk => hk.2))); have n3_ := Aside0.mk (hb); have n4_ := Aside0.mk (ho); clear HO_10; clear HO_49; clear BK140; clear HB; clear HO_13; have HO_10 := n0_; have HO_49 := n1_; have BK140 := n2_; have HB := n3_; have HO143 := n4_; clear n0_ n1_ n2_ n3_ n4_; clear ho hb hg hat))
                          go_roundg k2
                          case measure => have := HJ3.out; have := HK2.out; omega
                          case rel => exact ⟨(y141), (wrap64 (x51_2 + 1)), (by first | rfl | (simp; done) | (simp [*]; done) | (simp [show ∀ l : List UInt8, (!l.isEmpty) = (l != []) from fun l => by cases l <;> rfl]; done)), H', ⟨by have := HJ3.out; have := HK2.out; omega⟩, ⟨by (with_reducible repeat (first | apply Kd.R_alloc | apply Kd.R_drewN | apply Kd.R_drew)); exact Kd.R_mono HO_10.out (fun _ hk => ⟨hk.2, hk.1.1⟩)⟩, ⟨by (with_reducible repeat (first | apply Kd.R_alloc | apply Kd.R_drewN | apply Kd.R_drew)); exact Kd.R_mono HO143.out (fun _ hk => ⟨hk.1, hk.2.1⟩)⟩, ⟨by (with_reducible repeat (first | apply Kd.R_alloc | apply Kd.R_drewN | apply Kd.R_drew)); exact Kd.R_mono HO_49.out (fun _ hk => ⟨hk.1.1, hk.2⟩)⟩, ⟨by repeat (first | (with_reducible first | exact HB.out | apply below_alloc | apply pw_below_drewN | apply below_drew1 | refine below_set ?_ GE140.out) | exact HB.out)⟩⟩
                        · rw [if_neg c28] at H
                          exact absurd H (by simp)
                      · rw [if_neg c27] at H
                        have c27b0 : decide (((rd_T36 t129 x51_2).f1) < a1) = false := decide_eq_false c27
                        clear c27
                        have H' := Aside0.mk H
                        clear H
                        have p139 : 0 ≤ (x51_2 : Int) := of_decide_eq_true (by first | (with_reducible assumption) | assumption)
                        have q139 : x51_2 < (t129.length : Int) := of_decide_eq_true (by first | (with_reducible assumption) | assumption)
                        obtain ⟨ad139, e139, hx139_0, hx139_1, hx139_2, hx139_3, hx139_4, hx139_5, hx139_6⟩ := at_T36 (Kd.R_reads' HO_49.out).2.2 x51_2 p139 q139
                        cases e139
                        replace p139 := eq_true p139
                        replace q139 := eq_true q139
                        go_wp2_with (first | ((with_reducible refine gate_dst (N := 15) rfl ?_); (try (refine gate_guard (by rfl) ?_; dsimp only)); refine box_event ?hg (N := 15) ?hd (cs := #[.int .i64 0, .int .i64 0, .int .i64 0, .int .i64 0, .bool false, .int .i64 0, .int .u8 0]) (t := 36) ?hr ?_; (case hd => rfl); (case hg => rfl); (case hr => first | (go_simp; done) | (go_simp; rfl)); intro gb140 hg w32 hbox hb; have n0_ := Aside0.mk (Kd.R_below (Kd.R_elderB (by (with_reducible repeat (first | apply Kd.R_alloc | apply Kd.R_drewN | apply Kd.R_drew)); exact HO_10.out) gb140 (Nat.le_of_eq hg.symm)) hb); have n1_ := Aside0.mk (Kd.R_below (Kd.R_elderB (by (with_reducible repeat (first | apply Kd.R_alloc | apply Kd.R_drewN | apply Kd.R_drew)); exact HO_13.out) gb140 (Nat.le_of_eq hg.symm)) hb); have n2_ := Aside0.mk (Kd.R_below (Kd.R_elderB (by (with_reducible repeat (first | apply Kd.R_alloc | apply Kd.R_drewN | apply Kd.R_drew)); exact HO_49.out) gb140 (Nat.le_of_eq hg.symm)) hb); have n3_ := Aside0.mk (below_step (by repeat (first | (with_reducible first | exact HB.out | apply below_alloc | apply pw_below_drewN | apply below_drew1) | exact HB.out)) hb); have n4_ := Aside0.mk (hbox); have n5_ := Aside0.mk ((by rw [hg]; exact (below_size (by repeat (first | (with_reducible first | exact HB.out | apply below_alloc | apply pw_below_drewN | apply below_drew1) | exact HB.out))) : w.heap.size ≤ gb140)); have n6_ := Aside0.mk ((by rw [hg]; exact (below_size (by repeat (first | (with_reducible first | exact HB.out | apply below_alloc | apply pw_below_drewN | apply below_drew1) | exact HB.out))) : w.heap.size ≤ gb140)); clear HO_10; clear HO_13; clear HO_49; clear HB; have HO_10 := n0_; have HO_13 := n1_; have HO_49 := n2_; have HB := n3_; have BK140 := n4_; have GW140 := n5_; have GE140 := n6_; clear n0_ n1_ n2_ n3_ n4_ n5_ n6_; clear hb hbox hg; have hcz33_0 : w32.cell? ⟨gb140, 0, none⟩ = some (.int .i64 0) := (blk_cell BK140.out 0).trans rfl; have hcz33_1 : w32.cell? ⟨gb140, 1, none⟩ = some (.int .i64 0) := (blk_cell BK140.out 1).trans rfl; have hcz33_2 : w32.cell? ⟨gb140, 2, none⟩ = some (.int .i64 0) := (blk_cell BK140.out 2).trans rfl; have hcz33_3 : w32.cell? ⟨gb140, 3, none⟩ = some (.int .i64 0) := (blk_cell BK140.out 3).trans rfl; have hcz33_4 : w32.cell? ⟨gb140, 4, none⟩ = some (.bool false) := (blk_cell BK140.out 4).trans rfl; have hcz33_5 : w32.cell? ⟨gb140, 5, none⟩ = some (.int .i64 0) := (blk_cell BK140.out 5).trans rfl; have hcz33_6 : w32.cell? ⟨gb140, 6, none⟩ = some (.int .u8 0) := (blk_cell BK140.out 6).trans rfl; have hfz33_0 := blk_frozen BK140.out 0; have hfz33_1 := blk_frozen BK140.out 1; have hfz33_2 := blk_frozen BK140.out 2; have hfz33_3 := blk_frozen BK140.out 3; have hfz33_4 := blk_frozen BK140.out 4; have hfz33_5 := blk_frozen BK140.out 5; have hfz33_6 := blk_frozen BK140.out 6))
                        go_roundg k2
                        case measure => have := HJ3.out; have := HK2.out; omega
                        case rel => exact ⟨(x13_2), (wrap64 (x51_2 + 1)), (by first | rfl | (simp; done) | (simp [*]; done) | (simp [show ∀ l : List UInt8, (!l.isEmpty) = (l != []) from fun l => by cases l <;> rfl]; done)), H', ⟨by have := HJ3.out; have := HK2.out; omega⟩, ⟨by (with_reducible repeat (first | apply Kd.R_alloc | apply Kd.R_drewN | apply Kd.R_drew)); exact Kd.R_mono (Kd.R_far (p := ⟨gb140, 6, none⟩) (Kd.R_far (p := ⟨gb140, 5, none⟩) (Kd.R_far (p := ⟨gb140, 4, none⟩) (Kd.R_far (p := ⟨gb140, 3, none⟩) (Kd.R_far (p := ⟨gb140, 2, none⟩) (Kd.R_far (p := ⟨gb140, 1, none⟩) (Kd.R_far (p := ⟨gb140, 0, none⟩) (Kd.R_mono HO_10.out (fun k_ hk => (⟨hk, hk.2⟩ : _ ∧ k_ ≠ gb140))) (fun _ hk => hk.2) (.int .i64 ((rd_T36 t129 x51_2).f0))) (fun _ hk => hk.2) (.int .i64 ((rd_T36 t129 x51_2).f1))) (fun _ hk => hk.2) (.int .i64 ((rd_T36 t129 x51_2).f2.f0))) (fun _ hk => hk.2) (.int .i64 ((rd_T36 t129 x51_2).f2.f1))) (fun _ hk => hk.2) (.bool ((rd_T36 t129 x51_2).f2.f2))) (fun _ hk => hk.2) (.int .i64 ((rd_T36 t129 x51_2).f2.f3))) (fun _ hk => hk.2) (.int .u8 ((rd_T36 t129 x51_2).f3))) (fun _ hk => ⟨hk.1.1.1, hk.1.1.2⟩)⟩, ⟨by (with_reducible repeat (first | apply Kd.R_alloc | apply Kd.R_drewN | apply Kd.R_drew)); exact Kd.R_mono (Kd.R_far (p := ⟨gb140, 6, none⟩) (Kd.R_far (p := ⟨gb140, 5, none⟩) (Kd.R_far (p := ⟨gb140, 4, none⟩) (Kd.R_far (p := ⟨gb140, 3, none⟩) (Kd.R_far (p := ⟨gb140, 2, none⟩) (Kd.R_far (p := ⟨gb140, 1, none⟩) (Kd.R_far (p := ⟨gb140, 0, none⟩) (Kd.R_mono HO_13.out (fun k_ hk => (⟨hk, hk.2⟩ : _ ∧ k_ ≠ gb140))) (fun _ hk => hk.2) (.int .i64 ((rd_T36 t129 x51_2).f0))) (fun _ hk => hk.2) (.int .i64 ((rd_T36 t129 x51_2).f1))) (fun _ hk => hk.2) (.int .i64 ((rd_T36 t129 x51_2).f2.f0))) (fun _ hk => hk.2) (.int .i64 ((rd_T36 t129 x51_2).f2.f1))) (fun _ hk => hk.2) (.bool ((rd_T36 t129 x51_2).f2.f2))) (fun _ hk => hk.2) (.int .i64 ((rd_T36 t129 x51_2).f2.f3))) (fun _ hk => hk.2) (.int .u8 ((rd_T36 t129 x51_2).f3))) (fun _ hk => ⟨hk.1.1.1, hk.1.1.2⟩)⟩, ⟨by (with_reducible repeat (first | apply Kd.R_alloc | apply Kd.R_drewN | apply Kd.R_drew)); exact Kd.R_mono (Kd.R_far (p := ⟨gb140, 6, none⟩) (Kd.R_far (p := ⟨gb140, 5, none⟩) (Kd.R_far (p := ⟨gb140, 4, none⟩) (Kd.R_far (p := ⟨gb140, 3, none⟩) (Kd.R_far (p := ⟨gb140, 2, none⟩) (Kd.R_far (p := ⟨gb140, 1, none⟩) (Kd.R_far (p := ⟨gb140, 0, none⟩) (Kd.R_mono HO_49.out (fun k_ hk => (⟨hk, hk.2⟩ : _ ∧ k_ ≠ gb140))) (fun _ hk => hk.2) (.int .i64 ((rd_T36 t129 x51_2).f0))) (fun _ hk => hk.2) (.int .i64 ((rd_T36 t129 x51_2).f1))) (fun _ hk => hk.2) (.int .i64 ((rd_T36 t129 x51_2).f2.f0))) (fun _ hk => hk.2) (.int .i64 ((rd_T36 t129 x51_2).f2.f1))) (fun _ hk => hk.2) (.bool ((rd_T36 t129 x51_2).f2.f2))) (fun _ hk => hk.2) (.int .i64 ((rd_T36 t129 x51_2).f2.f3))) (fun _ hk => hk.2) (.int .u8 ((rd_T36 t129 x51_2).f3))) (fun _ hk => ⟨hk.1.1.1, hk.1.1.2⟩)⟩, ⟨by repeat (first | (with_reducible first | exact HB.out | apply below_alloc | apply pw_below_drewN | apply below_drew1 | refine below_set ?_ GE140.out) | exact HB.out)⟩⟩
                    · rw [if_neg c26] at H
                      exact absurd H (by simp)
                  · rw [if_neg c25] at H
                    exact absurd H (by simp)
                · rw [if_neg c24] at H
                  have c24b0 : decide (x51_2 < (t129.length : Int)) = false := decide_eq_false c24
                  clear c24
                  replace H := Option.bind_eq_some_iff.mp H
                  obtain ⟨t144, A340, H⟩ := H
                  replace H : (if t144 = true then (if t136 ≤ a1 then (if t136 < a1 then (some true) else (if t135 = 0 then (some true) else (some (t135 == 2)))) else (none)) else (none)) = some r := H
                  have A34 := Aside0.mk A340
                  clear A340
                  by_cases c35 : t144 = true
                  · subst c35
                    have H1 : (if t136 ≤ a1 then (if t136 < a1 then (some true) else (if t135 = 0 then (some true) else (some (t135 == 2)))) else (none)) = some r := by rw [if_pos rfl] at H; exact H
                    clear H
                    have H := H1
                    clear H1
                    by_cases c36 : t136 ≤ a1
                    · rw [if_pos c36] at H
                      have c36b0 : decide (t136 ≤ a1) = true := decide_eq_true c36
                      clear c36
                      by_cases c37 : t136 < a1
                      · rw [if_pos c37] at H
                        have c37b0 : decide (t136 < a1) = true := decide_eq_true c37
                        clear c37
                        obtain rfl := Option.some.inj H
                        obtain ⟨Ao38, co38, eo38⟩ := Kd.R_slice HO_10.out
                        subst eo38
                        obtain ⟨Ao39, co39, eo39⟩ := Kd.R_slice HO_13.out
                        subst eo39
                        go_wp2_with (first | ((with_reducible refine gate_callee (f := 15) rfl ?_); refine goesL_ (some 66) rfl rfl Try.func15 (by kernel_rfl) rfl #[.slice Ao38 t134.length co38, .slice Ao39 x13_2.length co39] rfl (by (try simp only [List.map_toArray, List.map_cons, List.map_nil]); first | done | rfl | (simp only [List.length_drop, List.length_take]; rfl)) ?_; (with_reducible refine (gantletref09_Same.calls k2 _ _ t134 _ _ x13_2 true _ ?side1 ?side2 ?side3 ?side4 A34.out).mono ?_); (case side1 => repeat (first | exact (Kd.R_reads' HO_10.out).2.2 | (with_reducible refine Kd.C_alloc ?_ _) | (with_reducible refine Kd.C_drewN ?_ _) | (with_reducible refine Kd.C_drew ?_))); (case side2 => exact (Kd.R_reads' HO_10.out).2.1); (case side3 => repeat (first | exact (Kd.R_reads' HO_13.out).2.2 | (with_reducible refine Kd.C_alloc ?_ _) | (with_reducible refine Kd.C_drewN ?_ _) | (with_reducible refine Kd.C_drew ?_))); (case side4 => exact (Kd.R_reads' HO_13.out).2.1); rintro e w' ⟨rfl, ⟨nd, rfl⟩⟩; refine ⟨_, rfl, ?_⟩))
                        go_ret
                        exact ⟨by first | rfl | (simp [errW_none, errW_some] <;> rfl) | (simp [*, errW_none, errW_some] <;> rfl), by repeat (first | (with_reducible first | exact HB.out | apply below_alloc | apply pw_below_drewN | apply below_drew1) | exact HB.out)⟩
                      · rw [if_neg c37] at H
                        have c37b0 : decide (t136 < a1) = false := decide_eq_false c37
                        clear c37
                        by_cases c40 : t135 = 0
                        · rw [if_pos c40] at H
                          have c40b0 : (t135 == 0) = true := beq_iff_eq.mpr c40
                          have c40b1 : (t135 != 0) = false := bne_eq_false_iff_eq.mpr c40
                          clear c40
                          obtain rfl := Option.some.inj H
                          obtain ⟨Ao41, co41, eo41⟩ := Kd.R_slice HO_10.out
                          subst eo41
                          obtain ⟨Ao42, co42, eo42⟩ := Kd.R_slice HO_13.out
                          subst eo42
                          go_wp2_with (first | ((with_reducible refine gate_callee (f := 15) rfl ?_); refine goesL_ (some 66) rfl rfl Try.func15 (by kernel_rfl) rfl #[.slice Ao41 t134.length co41, .slice Ao42 x13_2.length co42] rfl (by (try simp only [List.map_toArray, List.map_cons, List.map_nil]); first | done | rfl | (simp only [List.length_drop, List.length_take]; rfl)) ?_; (with_reducible refine (gantletref09_Same.calls k2 _ _ t134 _ _ x13_2 true _ ?side1 ?side2 ?side3 ?side4 A34.out).mono ?_); (case side1 => repeat (first | exact (Kd.R_reads' HO_10.out).2.2 | (with_reducible refine Kd.C_alloc ?_ _) | (with_reducible refine Kd.C_drewN ?_ _) | (with_reducible refine Kd.C_drew ?_))); (case side2 => exact (Kd.R_reads' HO_10.out).2.1); (case side3 => repeat (first | exact (Kd.R_reads' HO_13.out).2.2 | (with_reducible refine Kd.C_alloc ?_ _) | (with_reducible refine Kd.C_drewN ?_ _) | (with_reducible refine Kd.C_drew ?_))); (case side4 => exact (Kd.R_reads' HO_13.out).2.1); rintro e w' ⟨rfl, ⟨nd, rfl⟩⟩; refine ⟨_, rfl, ?_⟩))
                          go_ret
                          exact ⟨by first | rfl | (simp [errW_none, errW_some] <;> rfl) | (simp [*, errW_none, errW_some] <;> rfl), by repeat (first | (with_reducible first | exact HB.out | apply below_alloc | apply pw_below_drewN | apply below_drew1) | exact HB.out)⟩
                        · rw [if_neg c40] at H
                          have c40b0 : (t135 == 0) = false := beq_eq_false_iff_ne.mpr c40
                          have c40b1 : (t135 != 0) = true := bne_iff_ne.mpr c40
                          obtain rfl := Option.some.inj H
                          obtain ⟨Ao43, co43, eo43⟩ := Kd.R_slice HO_10.out
                          subst eo43
                          obtain ⟨Ao44, co44, eo44⟩ := Kd.R_slice HO_13.out
                          subst eo44
                          go_wp2_with (first | ((with_reducible refine gate_callee (f := 15) rfl ?_); refine goesL_ (some 66) rfl rfl Try.func15 (by kernel_rfl) rfl #[.slice Ao43 t134.length co43, .slice Ao44 x13_2.length co44] rfl (by (try simp only [List.map_toArray, List.map_cons, List.map_nil]); first | done | rfl | (simp only [List.length_drop, List.length_take]; rfl)) ?_; (with_reducible refine (gantletref09_Same.calls k2 _ _ t134 _ _ x13_2 true _ ?side1 ?side2 ?side3 ?side4 A34.out).mono ?_); (case side1 => repeat (first | exact (Kd.R_reads' HO_10.out).2.2 | (with_reducible refine Kd.C_alloc ?_ _) | (with_reducible refine Kd.C_drewN ?_ _) | (with_reducible refine Kd.C_drew ?_))); (case side2 => exact (Kd.R_reads' HO_10.out).2.1); (case side3 => repeat (first | exact (Kd.R_reads' HO_13.out).2.2 | (with_reducible refine Kd.C_alloc ?_ _) | (with_reducible refine Kd.C_drewN ?_ _) | (with_reducible refine Kd.C_drew ?_))); (case side4 => exact (Kd.R_reads' HO_13.out).2.1); rintro e w' ⟨rfl, ⟨nd, rfl⟩⟩; refine ⟨_, rfl, ?_⟩))
                          go_ret
                          exact ⟨by first | rfl | (simp [errW_none, errW_some] <;> rfl) | (simp [*, errW_none, errW_some] <;> rfl), by repeat (first | (with_reducible first | exact HB.out | apply below_alloc | apply pw_below_drewN | apply below_drew1) | exact HB.out)⟩
                    · rw [if_neg c36] at H
                      exact absurd H (by simp)
                  · replace c35 := Bool.eq_false_iff.mpr c35
                    subst c35
                    have H1 : (none) = some r := by rw [if_neg (show ¬ (false = true) by decide)] at H; exact H
                    clear H
                    have H := H1
                    clear H1
                    exact absurd H (by simp)
          · rw [if_neg c19] at H
            exact absurd H (by simp)
        · rw [if_neg c18] at H
          exact absurd H (by simp)

/-- THE ONE PURE STATEMENT of gantletlaw09_EventFront: yours. -/
def gantletlaw09_EventFront.Pure : Prop := ∀ (a0 : ByteArray) (a1 : Int) (a2 : Int), a0.size ≤ 140737488351232 → (Lit.int .i64 a1).wf = true → (Lit.int .i64 a2).wf = true → ∃ k, gantletlaw09_EventFront.f k a0 a1 a2 = some true
theorem gantletlaw09_EventFront.walk (P : gantletlaw09_EventFront.Pure) (a0 : ByteArray) (a1 : Int) (a2 : Int) (w : World) (w0 : a0.size ≤ 140737488351232) (w1 : (Lit.int .i64 a1).wf = true) (w2 : (Lit.int .i64 a2).wf = true) :
    Calls Try.prog 4 #[.string a0, .int .i64 a1, .int .i64 a2] w fun e w' => e = .returned (.bool true) ∧ Below w.heap.size w w' := by
  obtain ⟨k, h⟩ := P a0 a1 a2 w0 w1 w2
  refine (gantletlaw09_EventFront.calls k a0 a1 a2 true w h).mono ?_
  rintro e w' ⟨rfl, hd⟩
  exact ⟨rfl, hd⟩

end Go.Proofs.Ytomaajagncjiiaa.PB
