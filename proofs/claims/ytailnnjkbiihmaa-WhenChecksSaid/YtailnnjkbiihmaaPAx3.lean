-- Written by a program of this session (print2, a turned print): not PRINTED BY print.sh
import Derived.Test.YtailnnjkbiihmaaPAx0
import Derived.Test.YtailnnjkbiihmaaPAx1
import Derived.Test.YtailnnjkbiihmaaPAx2
namespace Go.Proofs.Ytailnnjkbiihmaa.PA
open Go.RowKit Go.Proofs.YtailnnjkbiihmaaW.PrintWords Go.Proofs.YtailnnjkbiihmaaW.PrintLast Go.Proofs.YtailnnjkbiihmaaW.PrintMore
attribute [local go_sem] max2_int min2_int max_two min_two max_three min_three max_four min_four   -- for this text's walks alone
set_option linter.unusedVariables false
set_option linter.unusedSimpArgs false

/-! ### when_Put: function 13 -/
def when_Put.l0 : Nat → ByteArray → List Int → Int → Int → Option (Int × ByteArray × Bool)
  | 0, _, _, _, _ => none
  | k + 1, x0, x13, x14, x15 => if x15 < x14 then (if 0 ≤ x15 then (if x15 < (x13.length : Int) then (if x0.size + 1 ≤ 9223372036854775807 then (if (rd x13 x15) = 23 then (if 2 ≤ ((x0 ++ (⟨#[90]⟩ : ByteArray)).size : Int) then ((when_Get.f k (rd x13 x15) ((x0 ++ (⟨#[90]⟩ : ByteArray)).extract 2 (x0.size + 1))).bind fun bt132 => (if bt132.2 = true then (if bt132.1.toList = x0.toList then (some (rd x13 x15, (x0 ++ (⟨#[90]⟩ : ByteArray)).extract 2 (x0.size + 1), true)) else (when_Put.l0 k x0 x13 x14 (wrap64 (x15 + 1)))) else (when_Put.l0 k x0 x13 x14 (wrap64 (x15 + 1))))) else (none)) else ((when_Get.f k (rd x13 x15) (x0 ++ (⟨#[90]⟩ : ByteArray))).bind fun bt134 => (if bt134.2 = true then (if bt134.1.toList = x0.toList then (some (rd x13 x15, x0 ++ (⟨#[90]⟩ : ByteArray), true)) else (when_Put.l0 k x0 x13 x14 (wrap64 (x15 + 1)))) else (when_Put.l0 k x0 x13 x14 (wrap64 (x15 + 1)))))) else (none)) else (none)) else (none)) else (some (0, (⟨#[]⟩ : ByteArray), false))
def when_Put.f (k : Nat) (a0 : ByteArray) : Option (Int × ByteArray × Bool) := if (a0.size : Int) = 14 then ((some (([23, 24] : List Int) : List Int)).bind fun y128 => (when_Put.l0 k a0 y128 (y128.length : Int) 0)) else (some (0, (⟨#[]⟩ : ByteArray), false))
theorem when_Put.mono_l : ∀ k, (∀ y0 y1 y2 y3, LeO (when_Put.l0 k y0 y1 y2 y3) (when_Put.l0 (k + 1) y0 y1 y2 y3))
  | 0 => fun _ _ _ _ r h => by simp [when_Put.l0] at h
  | k + 1 => by
    have ih0 := when_Put.mono_l k
    · intro y0 y1 y2 y3
      unfold when_Put.l0
      repeat' first
      | (with_reducible exact ih0 _ _ _ _)
      | (with_reducible exact when_Get.mono _ _ _)
      | (with_reducible exact LeO.refl _)
      | (with_reducible exact LeO.none _)
      | (with_reducible refine LeO.ite ?_ ?_)
      | (with_reducible refine LeO.bind ?_ (fun _ => ?_))
      | exact ih0 _ _ _ _
      | exact when_Get.mono _ _ _
      | exact LeO.none _
      | refine LeO.ite ?_ ?_
      | refine LeO.bind ?_ (fun _ => ?_)
theorem when_Put.mono : ∀ a0 k, LeO (when_Put.f k a0) (when_Put.f (k + 1) a0) := by
  intro a0 k
  have ih0 := when_Put.mono_l k
  unfold when_Put.f
  repeat' first
      | (with_reducible exact ih0 _ _ _ _)
      | (with_reducible exact when_Get.mono _ _ _)
      | (with_reducible exact LeO.refl _)
      | (with_reducible exact LeO.none _)
      | (with_reducible refine LeO.ite ?_ ?_)
      | (with_reducible refine LeO.bind ?_ (fun _ => ?_))
      | exact ih0 _ _ _ _
      | exact when_Get.mono _ _ _
      | exact LeO.none _
      | refine LeO.ite ?_ ?_
      | refine LeO.bind ?_ (fun _ => ?_)
set_option maxHeartbeats 8000000 in
set_option maxRecDepth 100000 in
theorem when_Put.calls (k : Nat) (a0 : ByteArray) (r1 : Int) (r2 : ByteArray) (r3 : Bool) (w : World) (h : when_Put.f k a0 = some (r1, r2, r3)) :
    Calls Try.prog 13 #[.string a0] w fun e w' => e = .returned (.tuple #[.int .i64 r1, .string r2, .bool r3]) ∧ Below w.heap.size w w' := by
  have HB := Aside0.mk (Below.refl w.heap.size w)
  have H : (if (a0.size : Int) = 14 then ((some (([23, 24] : List Int) : List Int)).bind fun y128 => (when_Put.l0 k a0 y128 (y128.length : Int) 0)) else (some (0, (⟨#[]⟩ : ByteArray), false))) = some (r1, r2, r3) := h
  clear h
  by_cases c2 : (a0.size : Int) = 14
  · rw [if_pos c2] at H
    have c2b0 : ((a0.size : Int) == 14) = true := beq_iff_eq.mpr c2
    have c2b1 : ((a0.size : Int) != 14) = false := bne_eq_false_iff_eq.mpr c2
    clear c2
    obtain ⟨y128, hy128⟩ : ∃ y_ : List Int, y_ = (([23, 24] : List Int)) := ⟨_, rfl⟩
    replace H : (when_Put.l0 k a0 y128 (y128.length : Int) 0) = some (r1, r2, r3) := by first | (rw [hy128]; with_reducible exact H) | (have H2_ := (Option.bind_some _ _).symm.trans H; rw [hy128]; with_reducible exact H2_) | (have H2_ := (Option.bind_some _ _).symm.trans H; with_reducible exact H2_) | with_reducible exact H | (rw [hy128]; exact H) | exact H
    have Ny128 := Aside0.mk hy128
    clear hy128
    have H' := Aside0.mk H
    clear H
    go_enter Try.func13, Try.ntmps13
    go_wp2_with (first | ((with_reducible refine gate_dst (N := 13) rfl ?_); refine Kd.R_lit (Kd.int .i64) _ 3 ?hg (N := 13) ?hd (xs := ([23, 24] : List Int)) (inner := [.int .i64 23, .int .i64 24]) (ok := fun _ => True) (okp := fun _ => True) ?hr ?hp (fun _ hk => hk) trivial (Below.refl _ _) (Nat.le_refl _) (by simp) ?_; (case hd => rfl); (case hg => rfl); (case hr => first | (go_simp; done) | (go_simp; rfl)); (case hp => exact (Reps.one (show Kd.M (Kd.int .i64) _ _ _ 23 [.int .i64 23] from rfl) (Reps.one (show Kd.M (Kd.int .i64) _ _ _ 24 [.int .i64 24] from rfl) (Reps.none _ _)))); intro v129 w3 ho4 hb hg_ hnew_; clear hg_ hnew_; (first | rw [← Ny128.out] at ho4 | (simp only [Int.reduceToNat] at ho4; rw [← Ny128.out] at ho4)); have n0_ := Aside0.mk (Kd.R_lower ho4 (below_size (by repeat (first | (with_reducible first | exact HB.out | apply below_alloc | apply pw_below_drewN | apply below_drew1) | exact HB.out)))); have n1_ := Aside0.mk (below_step (by repeat (first | (with_reducible first | exact HB.out | apply below_alloc | apply pw_below_drewN | apply below_drew1) | exact HB.out)) hb); clear HB; have HO130 := n0_; have HB := n1_; clear n0_ n1_; clear hb ho4; obtain ⟨Ao5, co5, eo5⟩ := Kd.R_slice HO130.out; subst eo5))
    go_loopg [15] k (fun kq v15 w' => ∃ (x15_1 : Int), v15 = .int .i64 x15_1 ∧ Aside0 (when_Put.l0 kq a0 y128 (y128.length : Int) x15_1 = some (r1, r2, r3)) ∧ Aside0 (kq ≤ k) ∧ Aside0 (Kd.R (Kd.int .i64) 3 w' w.heap.size (fun _ => True) (.slice Ao5 y128.length co5) y128) ∧ Aside0 (Below w.heap.size w w'))
    case atStart => exact ⟨(0), (by first | rfl | (simp; done) | (simp [*]; done)), H', ⟨Nat.le_refl _⟩, ⟨by (with_reducible repeat (first | apply Kd.R_alloc | apply Kd.R_drewN | apply Kd.R_drew)); exact HO130.out⟩, ⟨by repeat (first | (with_reducible first | exact HB.out | apply below_alloc | apply pw_below_drewN | apply below_drew1) | exact HB.out)⟩⟩
    case round =>
      clear H'
      try clear c1
      try clear c2
      try clear c2b0
      try clear c2b1
      try clear p2
      obtain ⟨x15_1, rfl, HA, HK1, HO_13, HB⟩ := hrel
      cases gk with
      | zero => exact absurd HA.out (by simp [when_Put.l0])
      | succ k1 =>
        have H := HA.out
        clear HA
        simp only [when_Put.l0] at H
        by_cases c6 : x15_1 < (y128.length : Int)
        · rw [if_pos c6] at H
          have c6b0 : decide (x15_1 < (y128.length : Int)) = true := decide_eq_true c6
          clear c6
          by_cases c7 : 0 ≤ x15_1
          · rw [if_pos c7] at H
            have c7b0 : decide (0 ≤ x15_1) = true := decide_eq_true c7
            clear c7
            by_cases c8 : x15_1 < (y128.length : Int)
            · rw [if_pos c8] at H
              have c8b0 : decide (x15_1 < (y128.length : Int)) = true := decide_eq_true c8
              clear c8
              by_cases c9 : a0.size + 1 ≤ 9223372036854775807
              · rw [if_pos c9] at H
                have c9b0 := eq_true c9
                have c9b1 : decide (a0.size + 1 ≤ 9223372036854775807) = true := decide_eq_true c9
                try have c9b2 : (9223372036854775807 < a0.size + 1) = False := eq_false (Nat.not_lt.2 c9)
                by_cases c10 : (rd y128 x15_1) = 23
                · rw [if_pos c10] at H
                  have c10b0 : ((rd y128 x15_1) == 23) = true := beq_iff_eq.mpr c10
                  have c10b1 : ((rd y128 x15_1) != 23) = false := bne_eq_false_iff_eq.mpr c10
                  clear c10
                  by_cases c11 : 2 ≤ ((a0 ++ (⟨#[90]⟩ : ByteArray)).size : Int)
                  · rw [if_pos c11] at H
                    have c11b0 := eq_true c11
                    have c11b1 : decide (2 ≤ ((a0 ++ (⟨#[90]⟩ : ByteArray)).size : Int)) = true := decide_eq_true c11
                    replace H := Option.bind_eq_some_iff.mp H
                    obtain ⟨⟨t132, t133⟩, A120, H⟩ := H
                    replace H : (if t133 = true then (if t132.toList = a0.toList then (some (rd y128 x15_1, (a0 ++ (⟨#[90]⟩ : ByteArray)).extract 2 (a0.size + 1), true)) else (when_Put.l0 k1 a0 y128 (y128.length : Int) (wrap64 (x15_1 + 1)))) else (when_Put.l0 k1 a0 y128 (y128.length : Int) (wrap64 (x15_1 + 1)))) = some (r1, r2, r3) := H
                    have A12 := Aside0.mk A120
                    clear A120
                    by_cases c13 : t133 = true
                    · subst c13
                      have H1 : (if t132.toList = a0.toList then (some (rd y128 x15_1, (a0 ++ (⟨#[90]⟩ : ByteArray)).extract 2 (a0.size + 1), true)) else (when_Put.l0 k1 a0 y128 (y128.length : Int) (wrap64 (x15_1 + 1)))) = some (r1, r2, r3) := by rw [if_pos rfl] at H; exact H
                      clear H
                      have H := H1
                      clear H1
                      by_cases c14 : t132.toList = a0.toList
                      · rw [if_pos c14] at H
                        have c14b0 : (t132.toList == a0.toList) = true := beq_iff_eq.mpr c14
                        have c14b1 : (t132.toList != a0.toList) = false := bne_eq_false_iff_eq.mpr c14
                        clear c14
                        simp only [Option.some.injEq, Prod.mk.injEq] at H
                        obtain ⟨rfl, rfl, rfl⟩ := H
                        have p131 : 0 ≤ (x15_1 : Int) := of_decide_eq_true (by first | (with_reducible assumption) | assumption)
                        have q131 : x15_1 < (y128.length : Int) := of_decide_eq_true (by first | (with_reducible assumption) | assumption)
                        obtain ⟨ad131, e131, hx131_0⟩ := Kd.at_int (Kd.R_reads' HO_13.out).2.2 x15_1 p131 q131
                        cases e131
                        replace p131 := eq_true p131
                        replace q131 := eq_true q131
                        go_wp2_with (first | ((with_reducible refine gate_callee (f := 14) rfl ?_); refine goesL_ (some 28) rfl rfl Try.func14 (by kernel_rfl) rfl #[.int .i64 (rd y128 x15_1), .string ((a0 ++ (⟨#[90]⟩ : ByteArray)).extract 2 (a0.size + 1))] rfl (by (try simp only [List.map_toArray, List.map_cons, List.map_nil]); first | done | rfl | (simp only [List.length_drop, List.length_take]; rfl)) ?_; (with_reducible refine (when_Get.calls k1 (rd y128 x15_1) ((a0 ++ (⟨#[90]⟩ : ByteArray)).extract 2 (a0.size + 1)) t132 true _ A12.out).mono ?_); rintro e w15 ⟨rfl, hb⟩; refine ⟨_, rfl, ?_⟩; have n0_ := Aside0.mk (Kd.R_below (by (with_reducible repeat (first | apply Kd.R_alloc | apply Kd.R_drewN | apply Kd.R_drew)); exact HO_13.out) hb); have n1_ := Aside0.mk (below_step (by repeat (first | (with_reducible first | exact HB.out | apply below_alloc | apply pw_below_drewN | apply below_drew1) | exact HB.out)) hb); clear HO_13; clear HB; have HO_13 := n0_; have HB := n1_; clear n0_ n1_; (try clear hb); (try clear hb2); (try clear hk); (try clear hi)))
                        go_ret3
                        exact ⟨by first | rfl | (simp [errW_none, errW_some] <;> rfl) | (simp [*, errW_none, errW_some] <;> rfl), by repeat (first | (with_reducible first | exact HB.out | apply below_alloc | apply pw_below_drewN | apply below_drew1) | exact HB.out)⟩
                      · rw [if_neg c14] at H
                        have c14b0 : (t132.toList == a0.toList) = false := beq_eq_false_iff_ne.mpr c14
                        have c14b1 : (t132.toList != a0.toList) = true := bne_iff_ne.mpr c14
                        have H' := Aside0.mk H
                        clear H
                        have p131 : 0 ≤ (x15_1 : Int) := of_decide_eq_true (by first | (with_reducible assumption) | assumption)
                        have q131 : x15_1 < (y128.length : Int) := of_decide_eq_true (by first | (with_reducible assumption) | assumption)
                        obtain ⟨ad131, e131, hx131_0⟩ := Kd.at_int (Kd.R_reads' HO_13.out).2.2 x15_1 p131 q131
                        cases e131
                        replace p131 := eq_true p131
                        replace q131 := eq_true q131
                        go_wp2_with (first | ((with_reducible refine gate_callee (f := 14) rfl ?_); refine goesL_ (some 28) rfl rfl Try.func14 (by kernel_rfl) rfl #[.int .i64 (rd y128 x15_1), .string ((a0 ++ (⟨#[90]⟩ : ByteArray)).extract 2 (a0.size + 1))] rfl (by (try simp only [List.map_toArray, List.map_cons, List.map_nil]); first | done | rfl | (simp only [List.length_drop, List.length_take]; rfl)) ?_; (with_reducible refine (when_Get.calls k1 (rd y128 x15_1) ((a0 ++ (⟨#[90]⟩ : ByteArray)).extract 2 (a0.size + 1)) t132 true _ A12.out).mono ?_); rintro e w16 ⟨rfl, hb⟩; refine ⟨_, rfl, ?_⟩; have n0_ := Aside0.mk (Kd.R_below (by (with_reducible repeat (first | apply Kd.R_alloc | apply Kd.R_drewN | apply Kd.R_drew)); exact HO_13.out) hb); have n1_ := Aside0.mk (below_step (by repeat (first | (with_reducible first | exact HB.out | apply below_alloc | apply pw_below_drewN | apply below_drew1) | exact HB.out)) hb); clear HO_13; clear HB; have HO_13 := n0_; have HB := n1_; clear n0_ n1_; (try clear hb); (try clear hb2); (try clear hk); (try clear hi)))
                        go_roundg k1
                        case measure => have := HK1.out; omega
                        case rel => exact ⟨(wrap64 (x15_1 + 1)), (by first | rfl | (simp; done) | (simp [*]; done)), H', ⟨by have := HK1.out; omega⟩, ⟨by (with_reducible repeat (first | apply Kd.R_alloc | apply Kd.R_drewN | apply Kd.R_drew)); exact HO_13.out⟩, ⟨by repeat (first | (with_reducible first | exact HB.out | apply below_alloc | apply pw_below_drewN | apply below_drew1) | exact HB.out)⟩⟩
                    · replace c13 := Bool.eq_false_iff.mpr c13
                      subst c13
                      have H1 : (when_Put.l0 k1 a0 y128 (y128.length : Int) (wrap64 (x15_1 + 1))) = some (r1, r2, r3) := by rw [if_neg (show ¬ (false = true) by decide)] at H; exact H
                      clear H
                      have H := H1
                      clear H1
                      have H' := Aside0.mk H
                      clear H
                      have p131 : 0 ≤ (x15_1 : Int) := of_decide_eq_true (by first | (with_reducible assumption) | assumption)
                      have q131 : x15_1 < (y128.length : Int) := of_decide_eq_true (by first | (with_reducible assumption) | assumption)
                      obtain ⟨ad131, e131, hx131_0⟩ := Kd.at_int (Kd.R_reads' HO_13.out).2.2 x15_1 p131 q131
                      cases e131
                      replace p131 := eq_true p131
                      replace q131 := eq_true q131
                      go_wp2_with (first | ((with_reducible refine gate_callee (f := 14) rfl ?_); refine goesL_ (some 28) rfl rfl Try.func14 (by kernel_rfl) rfl #[.int .i64 (rd y128 x15_1), .string ((a0 ++ (⟨#[90]⟩ : ByteArray)).extract 2 (a0.size + 1))] rfl (by (try simp only [List.map_toArray, List.map_cons, List.map_nil]); first | done | rfl | (simp only [List.length_drop, List.length_take]; rfl)) ?_; (with_reducible refine (when_Get.calls k1 (rd y128 x15_1) ((a0 ++ (⟨#[90]⟩ : ByteArray)).extract 2 (a0.size + 1)) t132 false _ A12.out).mono ?_); rintro e w17 ⟨rfl, hb⟩; refine ⟨_, rfl, ?_⟩; have n0_ := Aside0.mk (Kd.R_below (by (with_reducible repeat (first | apply Kd.R_alloc | apply Kd.R_drewN | apply Kd.R_drew)); exact HO_13.out) hb); have n1_ := Aside0.mk (below_step (by repeat (first | (with_reducible first | exact HB.out | apply below_alloc | apply pw_below_drewN | apply below_drew1) | exact HB.out)) hb); clear HO_13; clear HB; have HO_13 := n0_; have HB := n1_; clear n0_ n1_; (try clear hb); (try clear hb2); (try clear hk); (try clear hi)))
                      go_roundg k1
                      case measure => have := HK1.out; omega
                      case rel => exact ⟨(wrap64 (x15_1 + 1)), (by first | rfl | (simp; done) | (simp [*]; done)), H', ⟨by have := HK1.out; omega⟩, ⟨by (with_reducible repeat (first | apply Kd.R_alloc | apply Kd.R_drewN | apply Kd.R_drew)); exact HO_13.out⟩, ⟨by repeat (first | (with_reducible first | exact HB.out | apply below_alloc | apply pw_below_drewN | apply below_drew1) | exact HB.out)⟩⟩
                  · rw [if_neg c11] at H
                    exact absurd H (by simp)
                · rw [if_neg c10] at H
                  have c10b0 : ((rd y128 x15_1) == 23) = false := beq_eq_false_iff_ne.mpr c10
                  have c10b1 : ((rd y128 x15_1) != 23) = true := bne_iff_ne.mpr c10
                  replace H := Option.bind_eq_some_iff.mp H
                  obtain ⟨⟨t134, t135⟩, A180, H⟩ := H
                  replace H : (if t135 = true then (if t134.toList = a0.toList then (some (rd y128 x15_1, a0 ++ (⟨#[90]⟩ : ByteArray), true)) else (when_Put.l0 k1 a0 y128 (y128.length : Int) (wrap64 (x15_1 + 1)))) else (when_Put.l0 k1 a0 y128 (y128.length : Int) (wrap64 (x15_1 + 1)))) = some (r1, r2, r3) := H
                  have A18 := Aside0.mk A180
                  clear A180
                  by_cases c19 : t135 = true
                  · subst c19
                    have H1 : (if t134.toList = a0.toList then (some (rd y128 x15_1, a0 ++ (⟨#[90]⟩ : ByteArray), true)) else (when_Put.l0 k1 a0 y128 (y128.length : Int) (wrap64 (x15_1 + 1)))) = some (r1, r2, r3) := by rw [if_pos rfl] at H; exact H
                    clear H
                    have H := H1
                    clear H1
                    by_cases c20 : t134.toList = a0.toList
                    · rw [if_pos c20] at H
                      have c20b0 : (t134.toList == a0.toList) = true := beq_iff_eq.mpr c20
                      have c20b1 : (t134.toList != a0.toList) = false := bne_eq_false_iff_eq.mpr c20
                      clear c20
                      simp only [Option.some.injEq, Prod.mk.injEq] at H
                      obtain ⟨rfl, rfl, rfl⟩ := H
                      have p131 : 0 ≤ (x15_1 : Int) := of_decide_eq_true (by first | (with_reducible assumption) | assumption)
                      have q131 : x15_1 < (y128.length : Int) := of_decide_eq_true (by first | (with_reducible assumption) | assumption)
                      obtain ⟨ad131, e131, hx131_0⟩ := Kd.at_int (Kd.R_reads' HO_13.out).2.2 x15_1 p131 q131
                      cases e131
                      replace p131 := eq_true p131
                      replace q131 := eq_true q131
                      go_wp2_with (first | ((with_reducible refine gate_callee (f := 14) rfl ?_); refine goesL_ (some 28) rfl rfl Try.func14 (by kernel_rfl) rfl #[.int .i64 (rd y128 x15_1), .string (a0 ++ (⟨#[90]⟩ : ByteArray))] rfl (by (try simp only [List.map_toArray, List.map_cons, List.map_nil]); first | done | rfl | (simp only [List.length_drop, List.length_take]; rfl)) ?_; (with_reducible refine (when_Get.calls k1 (rd y128 x15_1) (a0 ++ (⟨#[90]⟩ : ByteArray)) t134 true _ A18.out).mono ?_); rintro e w21 ⟨rfl, hb⟩; refine ⟨_, rfl, ?_⟩; have n0_ := Aside0.mk (Kd.R_below (by (with_reducible repeat (first | apply Kd.R_alloc | apply Kd.R_drewN | apply Kd.R_drew)); exact HO_13.out) hb); have n1_ := Aside0.mk (below_step (by repeat (first | (with_reducible first | exact HB.out | apply below_alloc | apply pw_below_drewN | apply below_drew1) | exact HB.out)) hb); clear HO_13; clear HB; have HO_13 := n0_; have HB := n1_; clear n0_ n1_; (try clear hb); (try clear hb2); (try clear hk); (try clear hi)))
                      go_ret3
                      exact ⟨by first | rfl | (simp [errW_none, errW_some] <;> rfl) | (simp [*, errW_none, errW_some] <;> rfl), by repeat (first | (with_reducible first | exact HB.out | apply below_alloc | apply pw_below_drewN | apply below_drew1) | exact HB.out)⟩
                    · rw [if_neg c20] at H
                      have c20b0 : (t134.toList == a0.toList) = false := beq_eq_false_iff_ne.mpr c20
                      have c20b1 : (t134.toList != a0.toList) = true := bne_iff_ne.mpr c20
                      have H' := Aside0.mk H
                      clear H
                      have p131 : 0 ≤ (x15_1 : Int) := of_decide_eq_true (by first | (with_reducible assumption) | assumption)
                      have q131 : x15_1 < (y128.length : Int) := of_decide_eq_true (by first | (with_reducible assumption) | assumption)
                      obtain ⟨ad131, e131, hx131_0⟩ := Kd.at_int (Kd.R_reads' HO_13.out).2.2 x15_1 p131 q131
                      cases e131
                      replace p131 := eq_true p131
                      replace q131 := eq_true q131
                      go_wp2_with (first | ((with_reducible refine gate_callee (f := 14) rfl ?_); refine goesL_ (some 28) rfl rfl Try.func14 (by kernel_rfl) rfl #[.int .i64 (rd y128 x15_1), .string (a0 ++ (⟨#[90]⟩ : ByteArray))] rfl (by (try simp only [List.map_toArray, List.map_cons, List.map_nil]); first | done | rfl | (simp only [List.length_drop, List.length_take]; rfl)) ?_; (with_reducible refine (when_Get.calls k1 (rd y128 x15_1) (a0 ++ (⟨#[90]⟩ : ByteArray)) t134 true _ A18.out).mono ?_); rintro e w22 ⟨rfl, hb⟩; refine ⟨_, rfl, ?_⟩; have n0_ := Aside0.mk (Kd.R_below (by (with_reducible repeat (first | apply Kd.R_alloc | apply Kd.R_drewN | apply Kd.R_drew)); exact HO_13.out) hb); have n1_ := Aside0.mk (below_step (by repeat (first | (with_reducible first | exact HB.out | apply below_alloc | apply pw_below_drewN | apply below_drew1) | exact HB.out)) hb); clear HO_13; clear HB; have HO_13 := n0_; have HB := n1_; clear n0_ n1_; (try clear hb); (try clear hb2); (try clear hk); (try clear hi)))
                      go_roundg k1
                      case measure => have := HK1.out; omega
                      case rel => exact ⟨(wrap64 (x15_1 + 1)), (by first | rfl | (simp; done) | (simp [*]; done)), H', ⟨by have := HK1.out; omega⟩, ⟨by (with_reducible repeat (first | apply Kd.R_alloc | apply Kd.R_drewN | apply Kd.R_drew)); exact HO_13.out⟩, ⟨by repeat (first | (with_reducible first | exact HB.out | apply below_alloc | apply pw_below_drewN | apply below_drew1) | exact HB.out)⟩⟩
                  · replace c19 := Bool.eq_false_iff.mpr c19
                    subst c19
                    have H1 : (when_Put.l0 k1 a0 y128 (y128.length : Int) (wrap64 (x15_1 + 1))) = some (r1, r2, r3) := by rw [if_neg (show ¬ (false = true) by decide)] at H; exact H
                    clear H
                    have H := H1
                    clear H1
                    have H' := Aside0.mk H
                    clear H
                    have p131 : 0 ≤ (x15_1 : Int) := of_decide_eq_true (by first | (with_reducible assumption) | assumption)
                    have q131 : x15_1 < (y128.length : Int) := of_decide_eq_true (by first | (with_reducible assumption) | assumption)
                    obtain ⟨ad131, e131, hx131_0⟩ := Kd.at_int (Kd.R_reads' HO_13.out).2.2 x15_1 p131 q131
                    cases e131
                    replace p131 := eq_true p131
                    replace q131 := eq_true q131
                    go_wp2_with (first | ((with_reducible refine gate_callee (f := 14) rfl ?_); refine goesL_ (some 28) rfl rfl Try.func14 (by kernel_rfl) rfl #[.int .i64 (rd y128 x15_1), .string (a0 ++ (⟨#[90]⟩ : ByteArray))] rfl (by (try simp only [List.map_toArray, List.map_cons, List.map_nil]); first | done | rfl | (simp only [List.length_drop, List.length_take]; rfl)) ?_; (with_reducible refine (when_Get.calls k1 (rd y128 x15_1) (a0 ++ (⟨#[90]⟩ : ByteArray)) t134 false _ A18.out).mono ?_); rintro e w23 ⟨rfl, hb⟩; refine ⟨_, rfl, ?_⟩; have n0_ := Aside0.mk (Kd.R_below (by (with_reducible repeat (first | apply Kd.R_alloc | apply Kd.R_drewN | apply Kd.R_drew)); exact HO_13.out) hb); have n1_ := Aside0.mk (below_step (by repeat (first | (with_reducible first | exact HB.out | apply below_alloc | apply pw_below_drewN | apply below_drew1) | exact HB.out)) hb); clear HO_13; clear HB; have HO_13 := n0_; have HB := n1_; clear n0_ n1_; (try clear hb); (try clear hb2); (try clear hk); (try clear hi)))
                    go_roundg k1
                    case measure => have := HK1.out; omega
                    case rel => exact ⟨(wrap64 (x15_1 + 1)), (by first | rfl | (simp; done) | (simp [*]; done)), H', ⟨by have := HK1.out; omega⟩, ⟨by (with_reducible repeat (first | apply Kd.R_alloc | apply Kd.R_drewN | apply Kd.R_drew)); exact HO_13.out⟩, ⟨by repeat (first | (with_reducible first | exact HB.out | apply below_alloc | apply pw_below_drewN | apply below_drew1) | exact HB.out)⟩⟩
              · rw [if_neg c9] at H
                exact absurd H (by simp)
            · rw [if_neg c8] at H
              exact absurd H (by simp)
          · rw [if_neg c7] at H
            exact absurd H (by simp)
        · rw [if_neg c6] at H
          have c6b0 : decide (x15_1 < (y128.length : Int)) = false := decide_eq_false c6
          clear c6
          simp only [Option.some.injEq, Prod.mk.injEq] at H
          obtain ⟨rfl, rfl, rfl⟩ := H
          go_wp2
          go_ret3
          exact ⟨by first | rfl | (simp [errW_none, errW_some] <;> rfl) | (simp [*, errW_none, errW_some] <;> rfl), by repeat (first | (with_reducible first | exact HB.out | apply below_alloc | apply pw_below_drewN | apply below_drew1) | exact HB.out)⟩
  · rw [if_neg c2] at H
    have c2b0 : ((a0.size : Int) == 14) = false := beq_eq_false_iff_ne.mpr c2
    have c2b1 : ((a0.size : Int) != 14) = true := bne_iff_ne.mpr c2
    simp only [Option.some.injEq, Prod.mk.injEq] at H
    obtain ⟨rfl, rfl, rfl⟩ := H
    go_enter Try.func13, Try.ntmps13
    go_wp2
    go_ret3
    exact ⟨by first | rfl | (simp [errW_none, errW_some] <;> rfl) | (simp [*, errW_none, errW_some] <;> rfl), by repeat (first | (with_reducible first | exact HB.out | apply below_alloc | apply pw_below_drewN | apply below_drew1) | exact HB.out)⟩

/-! ### gantletlaw13_awake: function 9 -/
def gantletlaw13_awake.f (k : Nat)  : Option (Bool) := (when_Get.f k 23 (⟨#[50, 52, 48, 50, 50, 57, 50, 51, 53, 57, 53, 57, 90]⟩ : ByteArray)).bind fun bt136 => ((when_Get.f k 23 (⟨#[50, 51, 48, 50, 50, 57, 50, 51, 53, 57, 53, 57, 90]⟩ : ByteArray)).bind fun bt138 => ((when_Put.f k (⟨#[50, 48, 53, 48, 48, 49, 48, 49, 48, 48, 48, 48, 48, 48]⟩ : ByteArray)).bind fun bt140 => (if bt136.1.toList = ([50, 48, 50, 52, 48, 50, 50, 57, 50, 51, 53, 57, 53, 57] : List UInt8) then (if bt136.2 = true then (if bt138.2 = true then (none) else (if bt140.1 = 24 then (if bt140.2.1.toList = ([50, 48, 53, 48, 48, 49, 48, 49, 48, 48, 48, 48, 48, 48, 90] : List UInt8) then (if bt140.2.2 = true then ((when_Days.f 2000 2).bind fun t143 => (if t143 = 29 then ((when_Days.f 2100 2).bind fun t144 => (if t144 = 28 then ((when_Days.f 1 13).bind fun t145 => (some (t145 == 0))) else (none))) else (none))) else (none)) else (none)) else (none))) else (none)) else (none))))
theorem gantletlaw13_awake.mono : ∀ k, LeO (gantletlaw13_awake.f k ) (gantletlaw13_awake.f (k + 1) ) := by
  intro  k
  unfold gantletlaw13_awake.f
  repeat' first
      | (with_reducible exact when_Get.mono _ _ _)
      | (with_reducible exact when_Put.mono _ _)
      | (with_reducible exact LeO.refl _)
      | (with_reducible exact LeO.none _)
      | (with_reducible refine LeO.ite ?_ ?_)
      | (with_reducible refine LeO.bind ?_ (fun _ => ?_))
      | exact when_Get.mono _ _ _
      | exact when_Put.mono _ _
      | exact LeO.none _
      | refine LeO.ite ?_ ?_
      | refine LeO.bind ?_ (fun _ => ?_)
set_option maxHeartbeats 8000000 in
set_option maxRecDepth 100000 in
theorem gantletlaw13_awake.calls (k : Nat)  (r : Bool) (w : World) (h : gantletlaw13_awake.f k  = some r) :
    Calls Try.prog 9 #[] w fun e w' => e = .returned (.bool r) ∧ Below w.heap.size w w' := by
  have HB := Aside0.mk (Below.refl w.heap.size w)
  have H : ((when_Get.f k 23 (⟨#[50, 52, 48, 50, 50, 57, 50, 51, 53, 57, 53, 57, 90]⟩ : ByteArray)).bind fun bt136 => ((when_Get.f k 23 (⟨#[50, 51, 48, 50, 50, 57, 50, 51, 53, 57, 53, 57, 90]⟩ : ByteArray)).bind fun bt138 => ((when_Put.f k (⟨#[50, 48, 53, 48, 48, 49, 48, 49, 48, 48, 48, 48, 48, 48]⟩ : ByteArray)).bind fun bt140 => (if bt136.1.toList = ([50, 48, 50, 52, 48, 50, 50, 57, 50, 51, 53, 57, 53, 57] : List UInt8) then (if bt136.2 = true then (if bt138.2 = true then (none) else (if bt140.1 = 24 then (if bt140.2.1.toList = ([50, 48, 53, 48, 48, 49, 48, 49, 48, 48, 48, 48, 48, 48, 90] : List UInt8) then (if bt140.2.2 = true then ((when_Days.f 2000 2).bind fun t143 => (if t143 = 29 then ((when_Days.f 2100 2).bind fun t144 => (if t144 = 28 then ((when_Days.f 1 13).bind fun t145 => (some (t145 == 0))) else (none))) else (none))) else (none)) else (none)) else (none))) else (none)) else (none))))) = some r := h
  clear h
  replace H := Option.bind_eq_some_iff.mp H
  obtain ⟨⟨t136, t137⟩, A10, H⟩ := H
  replace H : ((when_Get.f k 23 (⟨#[50, 51, 48, 50, 50, 57, 50, 51, 53, 57, 53, 57, 90]⟩ : ByteArray)).bind fun bt138 => ((when_Put.f k (⟨#[50, 48, 53, 48, 48, 49, 48, 49, 48, 48, 48, 48, 48, 48]⟩ : ByteArray)).bind fun bt140 => (if t136.toList = ([50, 48, 50, 52, 48, 50, 50, 57, 50, 51, 53, 57, 53, 57] : List UInt8) then (if t137 = true then (if bt138.2 = true then (none) else (if bt140.1 = 24 then (if bt140.2.1.toList = ([50, 48, 53, 48, 48, 49, 48, 49, 48, 48, 48, 48, 48, 48, 90] : List UInt8) then (if bt140.2.2 = true then ((when_Days.f 2000 2).bind fun t143 => (if t143 = 29 then ((when_Days.f 2100 2).bind fun t144 => (if t144 = 28 then ((when_Days.f 1 13).bind fun t145 => (some (t145 == 0))) else (none))) else (none))) else (none)) else (none)) else (none))) else (none)) else (none)))) = some r := H
  have A1 := Aside0.mk A10
  clear A10
  replace H := Option.bind_eq_some_iff.mp H
  obtain ⟨⟨t138, t139⟩, A20, H⟩ := H
  replace H : ((when_Put.f k (⟨#[50, 48, 53, 48, 48, 49, 48, 49, 48, 48, 48, 48, 48, 48]⟩ : ByteArray)).bind fun bt140 => (if t136.toList = ([50, 48, 50, 52, 48, 50, 50, 57, 50, 51, 53, 57, 53, 57] : List UInt8) then (if t137 = true then (if t139 = true then (none) else (if bt140.1 = 24 then (if bt140.2.1.toList = ([50, 48, 53, 48, 48, 49, 48, 49, 48, 48, 48, 48, 48, 48, 90] : List UInt8) then (if bt140.2.2 = true then ((when_Days.f 2000 2).bind fun t143 => (if t143 = 29 then ((when_Days.f 2100 2).bind fun t144 => (if t144 = 28 then ((when_Days.f 1 13).bind fun t145 => (some (t145 == 0))) else (none))) else (none))) else (none)) else (none)) else (none))) else (none)) else (none))) = some r := H
  have A2 := Aside0.mk A20
  clear A20
  replace H := Option.bind_eq_some_iff.mp H
  obtain ⟨⟨t140, t141, t142⟩, A30, H⟩ := H
  replace H : (if t136.toList = ([50, 48, 50, 52, 48, 50, 50, 57, 50, 51, 53, 57, 53, 57] : List UInt8) then (if t137 = true then (if t139 = true then (none) else (if t140 = 24 then (if t141.toList = ([50, 48, 53, 48, 48, 49, 48, 49, 48, 48, 48, 48, 48, 48, 90] : List UInt8) then (if t142 = true then ((when_Days.f 2000 2).bind fun t143 => (if t143 = 29 then ((when_Days.f 2100 2).bind fun t144 => (if t144 = 28 then ((when_Days.f 1 13).bind fun t145 => (some (t145 == 0))) else (none))) else (none))) else (none)) else (none)) else (none))) else (none)) else (none)) = some r := H
  have A3 := Aside0.mk A30
  clear A30
  by_cases c4 : t136.toList = ([50, 48, 50, 52, 48, 50, 50, 57, 50, 51, 53, 57, 53, 57] : List UInt8)
  · rw [if_pos c4] at H
    have c4b0 : (t136.toList == ([50, 48, 50, 52, 48, 50, 50, 57, 50, 51, 53, 57, 53, 57] : List UInt8)) = true := beq_iff_eq.mpr c4
    have c4b1 : (t136.toList != ([50, 48, 50, 52, 48, 50, 50, 57, 50, 51, 53, 57, 53, 57] : List UInt8)) = false := bne_eq_false_iff_eq.mpr c4
    clear c4
    by_cases c5 : t137 = true
    · subst c5
      have H1 : (if t139 = true then (none) else (if t140 = 24 then (if t141.toList = ([50, 48, 53, 48, 48, 49, 48, 49, 48, 48, 48, 48, 48, 48, 90] : List UInt8) then (if t142 = true then ((when_Days.f 2000 2).bind fun t143 => (if t143 = 29 then ((when_Days.f 2100 2).bind fun t144 => (if t144 = 28 then ((when_Days.f 1 13).bind fun t145 => (some (t145 == 0))) else (none))) else (none))) else (none)) else (none)) else (none))) = some r := by rw [if_pos rfl] at H; exact H
      clear H
      have H := H1
      clear H1
      by_cases c6 : t139 = true
      · subst c6
        have H1 : (none) = some r := by rw [if_pos rfl] at H; exact H
        clear H
        have H := H1
        clear H1
        exact absurd H (by simp)
      · replace c6 := Bool.eq_false_iff.mpr c6
        subst c6
        have H1 : (if t140 = 24 then (if t141.toList = ([50, 48, 53, 48, 48, 49, 48, 49, 48, 48, 48, 48, 48, 48, 90] : List UInt8) then (if t142 = true then ((when_Days.f 2000 2).bind fun t143 => (if t143 = 29 then ((when_Days.f 2100 2).bind fun t144 => (if t144 = 28 then ((when_Days.f 1 13).bind fun t145 => (some (t145 == 0))) else (none))) else (none))) else (none)) else (none)) else (none)) = some r := by rw [if_neg (show ¬ (false = true) by decide)] at H; exact H
        clear H
        have H := H1
        clear H1
        by_cases c7 : t140 = 24
        · rw [if_pos c7] at H
          have c7b0 : (t140 == 24) = true := beq_iff_eq.mpr c7
          have c7b1 : (t140 != 24) = false := bne_eq_false_iff_eq.mpr c7
          clear c7
          by_cases c8 : t141.toList = ([50, 48, 53, 48, 48, 49, 48, 49, 48, 48, 48, 48, 48, 48, 90] : List UInt8)
          · rw [if_pos c8] at H
            have c8b0 : (t141.toList == ([50, 48, 53, 48, 48, 49, 48, 49, 48, 48, 48, 48, 48, 48, 90] : List UInt8)) = true := beq_iff_eq.mpr c8
            have c8b1 : (t141.toList != ([50, 48, 53, 48, 48, 49, 48, 49, 48, 48, 48, 48, 48, 48, 90] : List UInt8)) = false := bne_eq_false_iff_eq.mpr c8
            clear c8
            by_cases c9 : t142 = true
            · subst c9
              have H1 : ((when_Days.f 2000 2).bind fun t143 => (if t143 = 29 then ((when_Days.f 2100 2).bind fun t144 => (if t144 = 28 then ((when_Days.f 1 13).bind fun t145 => (some (t145 == 0))) else (none))) else (none))) = some r := by rw [if_pos rfl] at H; exact H
              clear H
              have H := H1
              clear H1
              replace H := Option.bind_eq_some_iff.mp H
              obtain ⟨t143, A100, H⟩ := H
              replace H : (if t143 = 29 then ((when_Days.f 2100 2).bind fun t144 => (if t144 = 28 then ((when_Days.f 1 13).bind fun t145 => (some (t145 == 0))) else (none))) else (none)) = some r := H
              have A10 := Aside0.mk A100
              clear A100
              by_cases c11 : t143 = 29
              · rw [if_pos c11] at H
                have c11b0 : (t143 == 29) = true := beq_iff_eq.mpr c11
                have c11b1 : (t143 != 29) = false := bne_eq_false_iff_eq.mpr c11
                clear c11
                replace H := Option.bind_eq_some_iff.mp H
                obtain ⟨t144, A120, H⟩ := H
                replace H : (if t144 = 28 then ((when_Days.f 1 13).bind fun t145 => (some (t145 == 0))) else (none)) = some r := H
                have A12 := Aside0.mk A120
                clear A120
                by_cases c13 : t144 = 28
                · rw [if_pos c13] at H
                  have c13b0 : (t144 == 28) = true := beq_iff_eq.mpr c13
                  have c13b1 : (t144 != 28) = false := bne_eq_false_iff_eq.mpr c13
                  clear c13
                  replace H := Option.bind_eq_some_iff.mp H
                  obtain ⟨t145, A140, H⟩ := H
                  replace H : (some (t145 == 0)) = some r := H
                  have A14 := Aside0.mk A140
                  clear A140
                  obtain rfl := Option.some.inj H
                  go_enter Try.func9, Try.ntmps9
                  go_wp2_with (first | ((with_reducible refine gate_callee (f := 14) rfl ?_); refine goesL_ (some 9) rfl rfl Try.func14 (by kernel_rfl) rfl #[.int .i64 23, .string (⟨#[50, 52, 48, 50, 50, 57, 50, 51, 53, 57, 53, 57, 90]⟩ : ByteArray)] rfl (by (try simp only [List.map_toArray, List.map_cons, List.map_nil]); first | done | rfl | (simp only [List.length_drop, List.length_take]; rfl)) ?_; (with_reducible refine (when_Get.calls k 23 (⟨#[50, 52, 48, 50, 50, 57, 50, 51, 53, 57, 53, 57, 90]⟩ : ByteArray) t136 true _ A1.out).mono ?_); rintro e w15 ⟨rfl, hb⟩; refine ⟨_, rfl, ?_⟩; have n0_ := Aside0.mk (below_step (by repeat (first | (with_reducible first | exact HB.out | apply below_alloc | apply pw_below_drewN | apply below_drew1) | exact HB.out)) hb); clear HB; have HB := n0_; clear n0_; (try clear hb); (try clear hb2); (try clear hk); (try clear hi)) | ((with_reducible refine gate_callee (f := 14) rfl ?_); refine goesL_ (some 13) rfl rfl Try.func14 (by kernel_rfl) rfl #[.int .i64 23, .string (⟨#[50, 51, 48, 50, 50, 57, 50, 51, 53, 57, 53, 57, 90]⟩ : ByteArray)] rfl (by (try simp only [List.map_toArray, List.map_cons, List.map_nil]); first | done | rfl | (simp only [List.length_drop, List.length_take]; rfl)) ?_; (with_reducible refine (when_Get.calls k 23 (⟨#[50, 51, 48, 50, 50, 57, 50, 51, 53, 57, 53, 57, 90]⟩ : ByteArray) t138 false _ A2.out).mono ?_); rintro e w16 ⟨rfl, hb⟩; refine ⟨_, rfl, ?_⟩; have n0_ := Aside0.mk (below_step (by repeat (first | (with_reducible first | exact HB.out | apply below_alloc | apply pw_below_drewN | apply below_drew1) | exact HB.out)) hb); clear HB; have HB := n0_; clear n0_; (try clear hb); (try clear hb2); (try clear hk); (try clear hi)) | ((with_reducible refine gate_callee (f := 13) rfl ?_); refine goesL_ (some 17) rfl rfl Try.func13 (by kernel_rfl) rfl #[.string (⟨#[50, 48, 53, 48, 48, 49, 48, 49, 48, 48, 48, 48, 48, 48]⟩ : ByteArray)] rfl (by (try simp only [List.map_toArray, List.map_cons, List.map_nil]); first | done | rfl | (simp only [List.length_drop, List.length_take]; rfl)) ?_; (with_reducible refine (when_Put.calls k (⟨#[50, 48, 53, 48, 48, 49, 48, 49, 48, 48, 48, 48, 48, 48]⟩ : ByteArray) t140 t141 true _ A3.out).mono ?_); rintro e w17 ⟨rfl, hb⟩; refine ⟨_, rfl, ?_⟩; have n0_ := Aside0.mk (below_step (by repeat (first | (with_reducible first | exact HB.out | apply below_alloc | apply pw_below_drewN | apply below_drew1) | exact HB.out)) hb); clear HB; have HB := n0_; clear n0_; (try clear hb); (try clear hb2); (try clear hk); (try clear hi)) | (go_at_call 18; (with_reducible refine (when_Days.calls 2000 2 t143 _ A10.out).mono ?_); rintro e w' ⟨rfl, ⟨nd, rfl⟩⟩) | (go_at_call 18; (with_reducible refine (when_Days.calls 2100 2 t144 _ A12.out).mono ?_); rintro e w' ⟨rfl, ⟨nd, rfl⟩⟩) | (go_at_call 18; (with_reducible refine (when_Days.calls 1 13 t145 _ A14.out).mono ?_); rintro e w' ⟨rfl, ⟨nd, rfl⟩⟩))
                  go_ret
                  exact ⟨by first | rfl | (simp [errW_none, errW_some] <;> rfl) | (simp [*, errW_none, errW_some] <;> rfl), by repeat (first | (with_reducible first | exact HB.out | apply below_alloc | apply pw_below_drewN | apply below_drew1) | exact HB.out)⟩
                · rw [if_neg c13] at H
                  exact absurd H (by simp)
              · rw [if_neg c11] at H
                exact absurd H (by simp)
            · replace c9 := Bool.eq_false_iff.mpr c9
              subst c9
              have H1 : (none) = some r := by rw [if_neg (show ¬ (false = true) by decide)] at H; exact H
              clear H
              have H := H1
              clear H1
              exact absurd H (by simp)
          · rw [if_neg c8] at H
            exact absurd H (by simp)
        · rw [if_neg c7] at H
          exact absurd H (by simp)
    · replace c5 := Bool.eq_false_iff.mpr c5
      subst c5
      have H1 : (none) = some r := by rw [if_neg (show ¬ (false = true) by decide)] at H; exact H
      clear H
      have H := H1
      clear H1
      exact absurd H (by simp)
  · rw [if_neg c4] at H
    exact absurd H (by simp)

/-! ### gantletref13_plain: function 24 -/
def gantletref13_plain.l0 : Nat → ByteArray → Int → Option (Bool)
  | 0, _, _ => none
  | k + 1, x0, x3 => if x3 < (x0.size : Int) then (if 0 ≤ x3 then (if (bt x0 x3) < 48 then (some false) else (if (bt x0 x3) > 57 then (some false) else (gantletref13_plain.l0 k x0 (wrap64 (x3 + 1))))) else (none)) else (some true)
def gantletref13_plain.f (k : Nat) (a0 : ByteArray) : Option (Bool) := gantletref13_plain.l0 k a0 0
theorem gantletref13_plain.mono_l : ∀ k, (∀ y0 y1, LeO (gantletref13_plain.l0 k y0 y1) (gantletref13_plain.l0 (k + 1) y0 y1))
  | 0 => fun _ _ r h => by simp [gantletref13_plain.l0] at h
  | k + 1 => by
    have ih0 := gantletref13_plain.mono_l k
    · intro y0 y1
      unfold gantletref13_plain.l0
      repeat' first
      | (with_reducible exact ih0 _ _)
      | (with_reducible exact LeO.refl _)
      | (with_reducible exact LeO.none _)
      | (with_reducible refine LeO.ite ?_ ?_)
      | (with_reducible refine LeO.bind ?_ (fun _ => ?_))
      | exact ih0 _ _
      | exact LeO.none _
      | refine LeO.ite ?_ ?_
      | refine LeO.bind ?_ (fun _ => ?_)
theorem gantletref13_plain.mono : ∀ a0 k, LeO (gantletref13_plain.f k a0) (gantletref13_plain.f (k + 1) a0) := by
  intro a0 k
  have ih0 := gantletref13_plain.mono_l k
  unfold gantletref13_plain.f
  repeat' first
      | (with_reducible exact ih0 _ _)
      | (with_reducible exact LeO.refl _)
      | (with_reducible exact LeO.none _)
      | (with_reducible refine LeO.ite ?_ ?_)
      | (with_reducible refine LeO.bind ?_ (fun _ => ?_))
      | exact ih0 _ _
      | exact LeO.none _
      | refine LeO.ite ?_ ?_
      | refine LeO.bind ?_ (fun _ => ?_)
set_option maxHeartbeats 8000000 in
set_option maxRecDepth 100000 in
theorem gantletref13_plain.calls (k : Nat) (a0 : ByteArray) (r : Bool) (w : World) (h : gantletref13_plain.f k a0 = some r) :
    Calls Try.prog 24 #[.string a0] w fun e w' => e = .returned (.bool r) ∧ Drawn0 w w' := by
  have H : (gantletref13_plain.l0 k a0 0) = some r := h
  clear h
  have H' := Aside0.mk H
  clear H
  go_enter Try.func24, Try.ntmps24
  go_wp2
  go_loopg [3] k (fun kq v3 w' => ∃ (x3_1 : Int), v3 = .int .i64 x3_1 ∧ Aside0 (gantletref13_plain.l0 kq a0 x3_1 = some r) ∧ Aside0 (kq ≤ k) ∧ Drawn0 w w')
  case atStart => exact ⟨(0), (by first | rfl | (simp; done) | (simp [*]; done)), H', ⟨Nat.le_refl _⟩, by repeat (first | exact Drawn0.refl _ | apply Drawn0.step)⟩
  case round =>
    clear H'
    obtain ⟨x3_1, rfl, HA, HK1, ⟨m1, rfl⟩⟩ := hrel
    cases gk with
    | zero => exact absurd HA.out (by simp [gantletref13_plain.l0])
    | succ k1 =>
      have H := HA.out
      clear HA
      simp only [gantletref13_plain.l0] at H
      by_cases c2 : x3_1 < (a0.size : Int)
      · rw [if_pos c2] at H
        have c2b0 : decide (x3_1 < (a0.size : Int)) = true := decide_eq_true c2
        clear c2
        by_cases c3 : 0 ≤ x3_1
        · rw [if_pos c3] at H
          have c3b0 : decide (0 ≤ x3_1) = true := decide_eq_true c3
          clear c3
          by_cases c5 : (bt a0 x3_1) < 48
          · rw [if_pos c5] at H
            have c5b0 : decide ((bt a0 x3_1) < 48) = true := decide_eq_true c5
            clear c5
            obtain rfl := Option.some.inj H
            have p4 : 0 ≤ (x3_1 : Int) := of_decide_eq_true (by first | (with_reducible assumption) | assumption)
            have q4 : x3_1 < (a0.size : Int) := of_decide_eq_true (by first | (with_reducible assumption) | assumption)
            have hx4 := bt_at a0 x3_1
            replace p4 := eq_true p4
            replace q4 := eq_true q4
            go_wp2
            go_ret
            exact ⟨by first | rfl | (simp; done) | (simp [*]; done), by repeat (first | exact Drawn0.refl _ | apply Drawn0.step)⟩
          · rw [if_neg c5] at H
            have c5b0 : decide ((bt a0 x3_1) < 48) = false := decide_eq_false c5
            clear c5
            by_cases c7 : (bt a0 x3_1) > 57
            · rw [if_pos c7] at H
              have c7b0 : decide (57 < (bt a0 x3_1)) = true := decide_eq_true c7
              clear c7
              obtain rfl := Option.some.inj H
              have p4 : 0 ≤ (x3_1 : Int) := of_decide_eq_true (by first | (with_reducible assumption) | assumption)
              have q4 : x3_1 < (a0.size : Int) := of_decide_eq_true (by first | (with_reducible assumption) | assumption)
              have hx4 := bt_at a0 x3_1
              replace p4 := eq_true p4
              replace q4 := eq_true q4
              have p6 : 0 ≤ (x3_1 : Int) := of_decide_eq_true (by first | (with_reducible assumption) | assumption)
              have q6 : x3_1 < (a0.size : Int) := of_decide_eq_true (by first | (with_reducible assumption) | assumption)
              have hx6 := bt_at a0 x3_1
              replace p6 := eq_true p6
              replace q6 := eq_true q6
              go_wp2
              go_ret
              exact ⟨by first | rfl | (simp; done) | (simp [*]; done), by repeat (first | exact Drawn0.refl _ | apply Drawn0.step)⟩
            · rw [if_neg c7] at H
              have c7b0 : decide (57 < (bt a0 x3_1)) = false := decide_eq_false c7
              clear c7
              have H' := Aside0.mk H
              clear H
              have p4 : 0 ≤ (x3_1 : Int) := of_decide_eq_true (by first | (with_reducible assumption) | assumption)
              have q4 : x3_1 < (a0.size : Int) := of_decide_eq_true (by first | (with_reducible assumption) | assumption)
              have hx4 := bt_at a0 x3_1
              replace p4 := eq_true p4
              replace q4 := eq_true q4
              have p6 : 0 ≤ (x3_1 : Int) := of_decide_eq_true (by first | (with_reducible assumption) | assumption)
              have q6 : x3_1 < (a0.size : Int) := of_decide_eq_true (by first | (with_reducible assumption) | assumption)
              have hx6 := bt_at a0 x3_1
              replace p6 := eq_true p6
              replace q6 := eq_true q6
              go_wp2
              go_roundg k1
              case measure => have := HK1.out; omega
              case rel => exact ⟨(wrap64 (x3_1 + 1)), (by first | rfl | (simp; done) | (simp [*]; done)), H', ⟨by have := HK1.out; omega⟩, by repeat (first | exact Drawn0.refl _ | apply Drawn0.step)⟩
        · rw [if_neg c3] at H
          exact absurd H (by simp)
      · rw [if_neg c2] at H
        have c2b0 : decide (x3_1 < (a0.size : Int)) = false := decide_eq_false c2
        clear c2
        obtain rfl := Option.some.inj H
        go_wp2
        go_ret
        exact ⟨by first | rfl | (simp; done) | (simp [*]; done), by repeat (first | exact Drawn0.refl _ | apply Drawn0.step)⟩

/-! ### gantletref13_year: function 25 -/
def gantletref13_year.l0 : Nat → ByteArray → Option (Bool)
  | 0, _ => none
  | k + 1, x0 => if (x0.size : Int) < 4 then (if x0.size + 1 ≤ 9223372036854775807 then (gantletref13_year.l0 k (x0 ++ (⟨#[57]⟩ : ByteArray))) else (none)) else (some (!(Op.bytesLess x0.toList ([50, 48, 53, 48] : List UInt8))))
def gantletref13_year.f (k : Nat) (a0 : ByteArray) : Option (Bool) := gantletref13_year.l0 k a0
theorem gantletref13_year.mono_l : ∀ k, (∀ y0, LeO (gantletref13_year.l0 k y0) (gantletref13_year.l0 (k + 1) y0))
  | 0 => fun _ r h => by simp [gantletref13_year.l0] at h
  | k + 1 => by
    have ih0 := gantletref13_year.mono_l k
    · intro y0
      unfold gantletref13_year.l0
      repeat' first
      | (with_reducible exact ih0 _)
      | (with_reducible exact LeO.refl _)
      | (with_reducible exact LeO.none _)
      | (with_reducible refine LeO.ite ?_ ?_)
      | (with_reducible refine LeO.bind ?_ (fun _ => ?_))
      | exact ih0 _
      | exact LeO.none _
      | refine LeO.ite ?_ ?_
      | refine LeO.bind ?_ (fun _ => ?_)
theorem gantletref13_year.mono : ∀ a0 k, LeO (gantletref13_year.f k a0) (gantletref13_year.f (k + 1) a0) := by
  intro a0 k
  have ih0 := gantletref13_year.mono_l k
  unfold gantletref13_year.f
  repeat' first
      | (with_reducible exact ih0 _)
      | (with_reducible exact LeO.refl _)
      | (with_reducible exact LeO.none _)
      | (with_reducible refine LeO.ite ?_ ?_)
      | (with_reducible refine LeO.bind ?_ (fun _ => ?_))
      | exact ih0 _
      | exact LeO.none _
      | refine LeO.ite ?_ ?_
      | refine LeO.bind ?_ (fun _ => ?_)
set_option maxHeartbeats 8000000 in
set_option maxRecDepth 100000 in
theorem gantletref13_year.calls (k : Nat) (a0 : ByteArray) (r : Bool) (w : World) (h : gantletref13_year.f k a0 = some r) :
    Calls Try.prog 25 #[.string a0] w fun e w' => e = .returned (.bool r) ∧ Drawn0 w w' := by
  have H : (gantletref13_year.l0 k a0) = some r := h
  clear h
  have H' := Aside0.mk H
  clear H
  go_enter Try.func25, Try.ntmps25
  go_wp2
  go_loopg [0] k (fun kq v0 w' => ∃ (x0_1 : ByteArray), v0 = .string x0_1 ∧ Aside0 (gantletref13_year.l0 kq x0_1 = some r) ∧ Aside0 (kq ≤ k) ∧ Drawn0 w w')
  case atStart => exact ⟨(a0), (by first | rfl | (simp; done) | (simp [*]; done)), H', ⟨Nat.le_refl _⟩, by repeat (first | exact Drawn0.refl _ | apply Drawn0.step)⟩
  case round =>
    clear H'
    obtain ⟨x0_1, rfl, HA, HK1, ⟨m1, rfl⟩⟩ := hrel
    cases gk with
    | zero => exact absurd HA.out (by simp [gantletref13_year.l0])
    | succ k1 =>
      have H := HA.out
      clear HA
      simp only [gantletref13_year.l0] at H
      by_cases c2 : (x0_1.size : Int) < 4
      · rw [if_pos c2] at H
        have c2b0 : decide ((x0_1.size : Int) < 4) = true := decide_eq_true c2
        have c2b1 : decide (x0_1.size < 4) = true := decide_eq_true (by omega)
        clear c2
        by_cases c3 : x0_1.size + 1 ≤ 9223372036854775807
        · rw [if_pos c3] at H
          have c3b0 := eq_true c3
          have c3b1 : decide (x0_1.size + 1 ≤ 9223372036854775807) = true := decide_eq_true c3
          try have c3b2 : (9223372036854775807 < x0_1.size + 1) = False := eq_false (Nat.not_lt.2 c3)
          have H' := Aside0.mk H
          clear H
          go_wp2
          go_roundg k1
          case measure => have := HK1.out; omega
          case rel => exact ⟨(x0_1 ++ (⟨#[57]⟩ : ByteArray)), (by first | rfl | (simp; done) | (simp [*]; done)), H', ⟨by have := HK1.out; omega⟩, by repeat (first | exact Drawn0.refl _ | apply Drawn0.step)⟩
        · rw [if_neg c3] at H
          exact absurd H (by simp)
      · rw [if_neg c2] at H
        have c2b0 : decide ((x0_1.size : Int) < 4) = false := decide_eq_false c2
        have c2b1 : decide (x0_1.size < 4) = false := decide_eq_false (by omega)
        clear c2
        obtain rfl := Option.some.inj H
        go_wp2
        go_ret
        exact ⟨by first | rfl | (simp; done) | (simp [*]; done), by repeat (first | exact Drawn0.refl _ | apply Drawn0.step)⟩

end Go.Proofs.Ytailnnjkbiihmaa.PA
