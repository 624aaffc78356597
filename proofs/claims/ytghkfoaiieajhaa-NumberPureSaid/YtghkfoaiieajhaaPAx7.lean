-- Written by a program of this session (print2, a turned print): not PRINTED BY print.sh
import Derived.Test.YtghkfoaiieajhaaPAx0
import Derived.Test.YtghkfoaiieajhaaPAx1
import Derived.Test.YtghkfoaiieajhaaPAx2
import Derived.Test.YtghkfoaiieajhaaPAx4
namespace Go.Proofs.Ytghkfoaiieajhaa.PA
open Go.RowKit Go.Proofs.YtghkfoaiieajhaaW.PrintWords Go.Proofs.YtghkfoaiieajhaaW.PrintLast Go.Proofs.YtghkfoaiieajhaaW.PrintMore
attribute [local go_sem] max2_int min2_int max_two min_two max_three min_three max_four min_four   -- for this text's walks alone
set_option linter.unusedVariables false
set_option linter.unusedSimpArgs false

/-! ### gantletlaw10_NumberPure: function 7 -/
mutual
def gantletlaw10_NumberPure.j0 : Nat → ByteArray → Int → Int → Int → Bool → Option (Bool)
  | 0, _, _, _, _, _ => none
  | k + 1, x1, x2, x7, x8, x36 => if x36 = true then ((gantletlaw10_awake.f k).bind fun t214 => (some t214)) else ((number_Start.f k x7 x8).bind fun bt215 => (gantletlaw10_NumberPure.l0 k x1 x2 x7 x8 bt215.2.2.2.2 (x1.size : Int) 0 bt215.1 bt215.2.1 bt215.2.2.1 bt215.2.2.2.1))
def gantletlaw10_NumberPure.l0 : Nat → ByteArray → Int → Int → Int → Bool → Int → Int → Int → Int → Int → Int → Option (Bool)
  | 0, _, _, _, _, _, _, _, _, _, _, _ => none
  | k + 1, x1, x2, x7, x8, x10, x45, x46, x221000, x221001, x221002, x221003 => if x46 < x45 then (if x10 = true then ((number_State_Push.f k x221000 x221001 x221002 x221003 x2).bind fun bt221 => (if 0 ≤ x46 then (if x46 < (x1.size : Int) then ((number_State_Push.f k x221000 x221001 x221002 x221003 (bt x1 x46)).bind fun bt226 => ((number_State_Push.f k x221000 x221001 x221002 x221003 (bt x1 x46)).bind fun bt232 => (if (bt226.2.2.2.2 != bt232.2.2.2.2) = true then (none) else (if 0 ≤ (wrap64 (x46 + 1)) then (if (wrap64 (x46 + 1)) ≤ (x1.size : Int) then ((gantletref10_Wrong.f k x7 x8 (x1.extract 0 ((wrap64 (x46 + 1)) : Int).toNat)).bind fun t238 => (if (bt226.2.2.2.2 != (t238 != (wrap64 (x46 + 1)))) = true then (none) else (gantletlaw10_NumberPure.l0 k x1 x2 x7 x8 bt226.2.2.2.2 x45 (wrap64 (x46 + 1)) bt226.1 bt226.2.1 bt226.2.2.1 bt226.2.2.2.1))) else (none)) else (none))))) else (none)) else (none))) else (some true)) else (some true)
end
def gantletlaw10_NumberPure.f (k : Nat) (a0_0 : Int) (a0_1 : Int) (a1 : ByteArray) (a2 : Int) : Option (Bool) := (gantletlaw10_awake.f k).bind fun t213 => (if t213 = true then (if (a1.size : Int) > 300 then (gantletlaw10_NumberPure.j0 k a1 a2 a0_0 a0_1 true) else (if a0_1 < 0 then (gantletlaw10_NumberPure.j0 k a1 a2 a0_0 a0_1 true) else (gantletlaw10_NumberPure.j0 k a1 a2 a0_0 a0_1 (decide ((a1.size : Int) > a0_1))))) else (gantletlaw10_NumberPure.j0 k a1 a2 a0_0 a0_1 true))
theorem gantletlaw10_NumberPure.mono_l : ∀ k, (∀ y0 y1 y2 y3 y4, LeO (gantletlaw10_NumberPure.j0 k y0 y1 y2 y3 y4) (gantletlaw10_NumberPure.j0 (k + 1) y0 y1 y2 y3 y4)) ∧ (∀ y0 y1 y2 y3 y4 y5 y6 y7 y8 y9 y10, LeO (gantletlaw10_NumberPure.l0 k y0 y1 y2 y3 y4 y5 y6 y7 y8 y9 y10) (gantletlaw10_NumberPure.l0 (k + 1) y0 y1 y2 y3 y4 y5 y6 y7 y8 y9 y10))
  | 0 => ⟨fun _ _ _ _ _ r h => by simp [gantletlaw10_NumberPure.j0] at h, fun _ _ _ _ _ _ _ _ _ _ _ r h => by simp [gantletlaw10_NumberPure.l0] at h⟩
  | k + 1 => by
    obtain ⟨ih0, ih1⟩ := gantletlaw10_NumberPure.mono_l k
    refine ⟨?_, ?_⟩
    · intro y0 y1 y2 y3 y4
      unfold gantletlaw10_NumberPure.j0
      repeat' first
      | (with_reducible exact ih0 _ _ _ _ _)
      | (with_reducible exact ih1 _ _ _ _ _ _ _ _ _ _ _)
      | (with_reducible exact gantletlaw10_awake.mono _)
      | (with_reducible exact gantletref10_Wrong.mono _ _ _ _)
      | (with_reducible exact number_Start.mono _ _ _)
      | (with_reducible exact number_State_Push.mono _ _ _ _ _ _)
      | (with_reducible exact LeO.refl _)
      | (with_reducible exact LeO.none _)
      | (with_reducible refine LeO.ite ?_ ?_)
      | (with_reducible refine LeO.bind ?_ (fun _ => ?_))
      | exact ih0 _ _ _ _ _
      | exact ih1 _ _ _ _ _ _ _ _ _ _ _
      | exact gantletlaw10_awake.mono _
      | exact gantletref10_Wrong.mono _ _ _ _
      | exact number_Start.mono _ _ _
      | exact number_State_Push.mono _ _ _ _ _ _
      | exact LeO.none _
      | refine LeO.ite ?_ ?_
      | refine LeO.bind ?_ (fun _ => ?_)
    · intro y0 y1 y2 y3 y4 y5 y6 y7 y8 y9 y10
      unfold gantletlaw10_NumberPure.l0
      repeat' first
      | (with_reducible exact ih0 _ _ _ _ _)
      | (with_reducible exact ih1 _ _ _ _ _ _ _ _ _ _ _)
      | (with_reducible exact gantletlaw10_awake.mono _)
      | (with_reducible exact gantletref10_Wrong.mono _ _ _ _)
      | (with_reducible exact number_Start.mono _ _ _)
      | (with_reducible exact number_State_Push.mono _ _ _ _ _ _)
      | (with_reducible exact LeO.refl _)
      | (with_reducible exact LeO.none _)
      | (with_reducible refine LeO.ite ?_ ?_)
      | (with_reducible refine LeO.bind ?_ (fun _ => ?_))
      | exact ih0 _ _ _ _ _
      | exact ih1 _ _ _ _ _ _ _ _ _ _ _
      | exact gantletlaw10_awake.mono _
      | exact gantletref10_Wrong.mono _ _ _ _
      | exact number_Start.mono _ _ _
      | exact number_State_Push.mono _ _ _ _ _ _
      | exact LeO.none _
      | refine LeO.ite ?_ ?_
      | refine LeO.bind ?_ (fun _ => ?_)
theorem gantletlaw10_NumberPure.mono : ∀ a0 a1 a2 a3 k, LeO (gantletlaw10_NumberPure.f k a0 a1 a2 a3) (gantletlaw10_NumberPure.f (k + 1) a0 a1 a2 a3) := by
  intro a0 a1 a2 a3 k
  obtain ⟨ih0, ih1⟩ := gantletlaw10_NumberPure.mono_l k
  unfold gantletlaw10_NumberPure.f
  repeat' first
      | (with_reducible exact ih0 _ _ _ _ _)
      | (with_reducible exact ih1 _ _ _ _ _ _ _ _ _ _ _)
      | (with_reducible exact gantletlaw10_awake.mono _)
      | (with_reducible exact gantletref10_Wrong.mono _ _ _ _)
      | (with_reducible exact number_Start.mono _ _ _)
      | (with_reducible exact number_State_Push.mono _ _ _ _ _ _)
      | (with_reducible exact LeO.refl _)
      | (with_reducible exact LeO.none _)
      | (with_reducible refine LeO.ite ?_ ?_)
      | (with_reducible refine LeO.bind ?_ (fun _ => ?_))
      | exact ih0 _ _ _ _ _
      | exact ih1 _ _ _ _ _ _ _ _ _ _ _
      | exact gantletlaw10_awake.mono _
      | exact gantletref10_Wrong.mono _ _ _ _
      | exact number_Start.mono _ _ _
      | exact number_State_Push.mono _ _ _ _ _ _
      | exact LeO.none _
      | refine LeO.ite ?_ ?_
      | refine LeO.bind ?_ (fun _ => ?_)
def gantletlaw10_NumberPure.T11 : Bool × List (List Nat × List Nat) := (true, [([], []), ([], []), ([], []), ([1, 2], [1, 2]), ([0, 3], [0, 3]), ([4], [4]), ([5], [5]), ([5], [5]), ([], []), ([8, 6, 4, 0, 1, 2, 3, 4, 5, 6, 8], [6, 8]), ([7, 9, 0, 1, 2, 3, 4, 5, 6, 7, 8, 9], [7])])
def gantletlaw10_NumberPure.B11 : List Nat := [0, 0, 0, 6, 15, 31, 63, 63, 0, 383, 1023]
theorem gantletlaw10_NumberPure.tab11 : rtab .any (opsOf Try.f7 11) = gantletlaw10_NumberPure.T11 := by kernel_rfl
theorem gantletlaw10_NumberPure.bits11 : waitsOk gantletlaw10_NumberPure.T11.2 gantletlaw10_NumberPure.B11 = true := by kernel_rfl
def gantletlaw10_NumberPure.T12 : Bool × List (List Nat × List Nat) := (true, [([], []), ([], []), ([], []), ([1, 2], [1, 2]), ([0, 3], [0, 3]), ([4], [4]), ([5], [5]), ([5], [5]), ([], []), ([8, 6, 4, 0, 1, 2, 3, 4, 5, 6, 8], [6, 8]), ([7, 9, 0, 1, 2, 3, 4, 5, 6, 7, 8, 9], [7])])
def gantletlaw10_NumberPure.B12 : List Nat := [0, 0, 0, 6, 15, 31, 63, 63, 0, 383, 1023]
theorem gantletlaw10_NumberPure.tab12 : rtab .any (opsOf Try.f7 12) = gantletlaw10_NumberPure.T12 := by kernel_rfl
theorem gantletlaw10_NumberPure.bits12 : waitsOk gantletlaw10_NumberPure.T12.2 gantletlaw10_NumberPure.B12 = true := by kernel_rfl
set_option maxHeartbeats 8000000 in
set_option maxRecDepth 100000 in
theorem gantletlaw10_NumberPure.calls (k : Nat) (a0_0 : Int) (a0_1 : Int) (a1 : ByteArray) (a2 : Int) (r : Bool) (w : World) (h : gantletlaw10_NumberPure.f k a0_0 a0_1 a1 a2 = some r) :
    Calls Try.prog 7 #[.agg #[.int .i64 a0_0, .int .i64 a0_1], .string a1, .int .u8 a2] w fun e w' => e = .returned (.bool r) ∧ Below w.heap.size w w' := by
  have hu36 := Try.underlying36
  have hu25 := Try.underlying25
  have HB := Aside0.mk (Below.refl w.heap.size w)
  have H : ((gantletlaw10_awake.f k).bind fun t213 => (if t213 = true then (if (a1.size : Int) > 300 then (gantletlaw10_NumberPure.j0 k a1 a2 a0_0 a0_1 true) else (if a0_1 < 0 then (gantletlaw10_NumberPure.j0 k a1 a2 a0_0 a0_1 true) else (gantletlaw10_NumberPure.j0 k a1 a2 a0_0 a0_1 (decide ((a1.size : Int) > a0_1))))) else (gantletlaw10_NumberPure.j0 k a1 a2 a0_0 a0_1 true))) = some r := h
  clear h
  have HC4 := Aside0.mk H
  clear H
  go_enter Try.func7, Try.ntmps7
  try go_wp2_with (first | ((with_reducible refine gate_dst (N := 3) rfl ?_); (try (refine gate_guard (by rfl) ?_; dsimp only)); refine box_event ?hg (N := 3) ?hd (cs := #[.int .i64 a0_0, .int .i64 a0_1]) (t := 36) ?hr ?_; (case hd => rfl); (case hg => rfl); (case hr => first | (go_simp; done) | (go_simp; rfl)); intro gb212 hg w5 hbox hb; have n0_ := Aside0.mk (below_step (by repeat (first | (with_reducible first | exact HB.out | apply below_alloc | apply pw_below_drewN | apply below_drew1) | exact HB.out)) hb); have n1_ := Aside0.mk (hbox); have n2_ := Aside0.mk ((by rw [hg]; exact (below_size (by repeat (first | (with_reducible first | exact HB.out | apply below_alloc | apply pw_below_drewN | apply below_drew1) | exact HB.out))) : w.heap.size ≤ gb212)); have n3_ := Aside0.mk ((by rw [hg]; exact (below_size (by repeat (first | (with_reducible first | exact HB.out | apply below_alloc | apply pw_below_drewN | apply below_drew1) | exact HB.out))) : w.heap.size ≤ gb212)); clear HB; have HB := n0_; have BK212 := n1_; have GW212 := n2_; have GE212 := n3_; clear n0_ n1_ n2_ n3_; clear hb hbox hg))
  have n0_ := Aside0.mk (blk_drew BK212.out)
  have n1_ := Aside0.mk (below_drew1 HB.out)
  clear BK212
  clear HB
  have BK212 := n0_
  have HB := n1_
  clear n0_ n1_
  refine start_ (n := 6) (S := fun w' => w'.cell? ⟨gb212, 0, none⟩ = some (.int .i64 a0_0) ∧ w'.cell? ⟨gb212, 1, none⟩ = some (.int .i64 a0_1)) (ds := []) #[false, false, false, false, false, false] (by kernel_rfl) rfl rfl ⟨(blk_cell BK212.out 0).trans rfl, (blk_cell BK212.out 1).trans rfl⟩ (fun hHeld => ?_)
  generalize w5.drew = w6 at BK212 HB hHeld ⊢
  refine pure_ (i := 0) (N := some 16) (v := ?_) (a' := ?_) #[true, false, false, false, false, false] rfl rfl (by kernel_rfl) (fun _ _ _ h => h) (Or.inl ⟨by rfl, ?_⟩) ?_ ?_
  rotate_left
  · intro w'
    go_simp
    with_reducible rfl
  rotate_left
  · simp only [Act.put, List.setIfInBounds_toArray, List.set_cons_zero, List.set_cons_succ, i64_w, i32_w]
    rfl
  refine pure_ (i := 2) (N := some 18) (v := ?_) (a' := ?_) #[true, false, true, false, false, false] rfl rfl (by kernel_rfl) (fun _ _ _ h => h) (Or.inl ⟨by rfl, ?_⟩) ?_ ?_
  rotate_left
  · intro w'
    go_simp
    with_reducible rfl
  rotate_left
  · simp only [Act.put, List.setIfInBounds_toArray, List.set_cons_zero, List.set_cons_succ, i64_w, i32_w]
    rfl
  refine take_ (i := 1) (N := some 17) (v := ?_) (a' := ?_) #[true, true, true, false, false, false] rfl rfl (by kernel_rfl) (fun _ _ _ h => h) (Or.inl ⟨by rfl, ?_⟩) hHeld ?_ ?_
  rotate_left
  · rintro w' ⟨s0, s1⟩
    go_simp
    with_reducible rfl
  rotate_left
  · simp only [Act.put, List.setIfInBounds_toArray, List.set_cons_zero, List.set_cons_succ, i64_w, i32_w]
    rfl
  refine pure_ (i := 4) (N := some 7) (v := ?_) (a' := ?_) #[true, true, true, false, true, false] rfl rfl (by kernel_rfl) (fun _ _ _ h => h) (Or.inl ⟨by rfl, ?_⟩) ?_ ?_
  rotate_left
  · intro w'
    go_simp
    with_reducible rfl
  rotate_left
  · simp only [Act.put, List.setIfInBounds_toArray, List.set_cons_zero, List.set_cons_succ, i64_w, i32_w]
    rfl
  refine take_ (i := 3) (N := some 19) (v := ?_) (a' := ?_) #[true, true, true, true, true, false] rfl rfl (by kernel_rfl) (fun _ _ _ h => h) (Or.inl ⟨by rfl, ?_⟩) hHeld ?_ ?_
  rotate_left
  · rintro w' ⟨s0, s1⟩
    go_simp
    with_reducible rfl
  rotate_left
  · simp only [Act.put, List.setIfInBounds_toArray, List.set_cons_zero, List.set_cons_succ, i64_w, i32_w]
    rfl
  refine pure_ (i := 5) (N := some 8) (v := ?_) (a' := ?_) #[true, true, true, true, true, true] rfl rfl (by kernel_rfl) (fun _ _ _ h => h) (Or.inl ⟨by rfl, ?_⟩) ?_ ?_
  rotate_left
  · intro w'
    go_simp
    with_reducible rfl
  rotate_left
  · simp only [Act.put, List.setIfInBounds_toArray, List.set_cons_zero, List.set_cons_succ, i64_w, i32_w]
    rfl
  refine done_ (by kernel_rfl) ?_
  go_upto_region 2 with (fail)
  go_cut [36] (fun v36 wc => ∃ (kq : Nat) (x36_3 : Bool), v36 = .bool x36_3 ∧ Aside0 (gantletlaw10_NumberPure.j0 kq a1 a2 a0_0 a0_1 x36_3 = some r) ∧ Aside0 (kq ≤ k) ∧ Aside0 (wc.heap[gb212]? = some (.cells #[.int .i64 a0_0, .int .i64 a0_1] 36 (0, 0))) ∧ Aside0 (Below w.heap.size w wc))
  case first =>
    have H := HC4.out
    clear HC4
    replace H := Option.bind_eq_some_iff.mp H
    obtain ⟨t213, A70, H⟩ := H
    replace H : (if t213 = true then (if (a1.size : Int) > 300 then (gantletlaw10_NumberPure.j0 k a1 a2 a0_0 a0_1 true) else (if a0_1 < 0 then (gantletlaw10_NumberPure.j0 k a1 a2 a0_0 a0_1 true) else (gantletlaw10_NumberPure.j0 k a1 a2 a0_0 a0_1 (decide ((a1.size : Int) > a0_1))))) else (gantletlaw10_NumberPure.j0 k a1 a2 a0_0 a0_1 true)) = some r := H
    have A7 := Aside0.mk A70
    clear A70
    by_cases c8 : t213 = true
    · subst c8
      have H1 : (if (a1.size : Int) > 300 then (gantletlaw10_NumberPure.j0 k a1 a2 a0_0 a0_1 true) else (if a0_1 < 0 then (gantletlaw10_NumberPure.j0 k a1 a2 a0_0 a0_1 true) else (gantletlaw10_NumberPure.j0 k a1 a2 a0_0 a0_1 (decide ((a1.size : Int) > a0_1))))) = some r := by rw [if_pos rfl] at H; exact H
      clear H
      have H := H1
      clear H1
      by_cases c9 : (a1.size : Int) > 300
      · rw [if_pos c9] at H
        have c9b0 : decide (300 < (a1.size : Int)) = true := decide_eq_true c9
        have c9b1 : decide (300 < a1.size) = true := decide_eq_true (by omega)
        clear c9
        (first | rw [c9b0] | (simp only [i64_w, i32_w]; rw [c9b0]) | skip)
        have H' := Aside0.mk H
        clear H
        go_wp2_with (first | ((with_reducible refine gate_callee (f := 9) rfl ?_); refine goesL_ (some 20) rfl rfl Try.func9 (by kernel_rfl) rfl #[] rfl (by (try simp only [List.map_toArray, List.map_cons, List.map_nil]); first | done | rfl | (simp only [List.length_drop, List.length_take]; rfl)) ?_; (with_reducible refine (gantletlaw10_awake.calls k  true _ A7.out).mono ?_); rintro e w10 ⟨rfl, hb⟩; refine ⟨_, rfl, ?_⟩; have n0_ := Aside0.mk (blk_below (g := gb212) (o := .cells #[.int .i64 a0_0, .int .i64 a0_1] 36 (0, 0)) (by (with_reducible repeat (first | refine blk_drewN ?_ _ | refine blk_drew ?_ | refine blk_alloc ?_ _)); exact BK212.out) hb); have n1_ := Aside0.mk (below_step (by repeat (first | (with_reducible first | exact HB.out | apply below_alloc | apply pw_below_drewN | apply below_drew1 | refine below_set ?_ GE212.out) | exact HB.out)) hb); clear BK212; clear HB; have BK212 := n0_; have HB := n1_; clear n0_ n1_; (try clear hb); (try clear hb2); (try clear hk); (try clear hi)))
        go_meet
        case rel => exact ⟨_, (true), (by first | rfl | (simp; done) | (simp [*]; done)), H', ⟨by first | omega | exact Nat.le_refl _⟩, ⟨by (with_reducible repeat (first | refine blk_drewN ?_ _ | refine blk_drew ?_ | refine blk_alloc ?_ _)); exact BK212.out⟩, ⟨by repeat (first | (with_reducible first | exact HB.out | apply below_alloc | apply pw_below_drewN | apply below_drew1 | refine below_set ?_ GE212.out) | exact HB.out)⟩⟩
      · rw [if_neg c9] at H
        have c9b0 : decide (300 < (a1.size : Int)) = false := decide_eq_false c9
        have c9b1 : decide (300 < a1.size) = false := decide_eq_false (by omega)
        clear c9
        (first | rw [c9b0] | (simp only [i64_w, i32_w]; rw [c9b0]) | skip)
        by_cases c11 : a0_1 < 0
        · rw [if_pos c11] at H
          have c11b0 : decide (a0_1 < 0) = true := decide_eq_true c11
          clear c11
          have H' := Aside0.mk H
          clear H
          go_wp2_with (first | ((with_reducible refine gate_callee (f := 9) rfl ?_); refine goesL_ (some 20) rfl rfl Try.func9 (by kernel_rfl) rfl #[] rfl (by (try simp only [List.map_toArray, List.map_cons, List.map_nil]); first | done | rfl | (simp only [List.length_drop, List.length_take]; rfl)) ?_; (with_reducible refine (gantletlaw10_awake.calls k  true _ A7.out).mono ?_); rintro e w12 ⟨rfl, hb⟩; refine ⟨_, rfl, ?_⟩; have n0_ := Aside0.mk (blk_below (g := gb212) (o := .cells #[.int .i64 a0_0, .int .i64 a0_1] 36 (0, 0)) (by (with_reducible repeat (first | refine blk_drewN ?_ _ | refine blk_drew ?_ | refine blk_alloc ?_ _)); exact BK212.out) hb); have n1_ := Aside0.mk (below_step (by repeat (first | (with_reducible first | exact HB.out | apply below_alloc | apply pw_below_drewN | apply below_drew1 | refine below_set ?_ GE212.out) | exact HB.out)) hb); clear BK212; clear HB; have BK212 := n0_; have HB := n1_; clear n0_ n1_; (try clear hb); (try clear hb2); (try clear hk); (try clear hi)))
          go_meet
          case rel => exact ⟨_, (true), (by first | rfl | (simp; done) | (simp [*]; done)), H', ⟨by first | omega | exact Nat.le_refl _⟩, ⟨by (with_reducible repeat (first | refine blk_drewN ?_ _ | refine blk_drew ?_ | refine blk_alloc ?_ _)); exact BK212.out⟩, ⟨by repeat (first | (with_reducible first | exact HB.out | apply below_alloc | apply pw_below_drewN | apply below_drew1 | refine below_set ?_ GE212.out) | exact HB.out)⟩⟩
        · rw [if_neg c11] at H
          have c11b0 : decide (a0_1 < 0) = false := decide_eq_false c11
          clear c11
          have H' := Aside0.mk H
          clear H
          go_wp2_with (first | ((with_reducible refine gate_callee (f := 9) rfl ?_); refine goesL_ (some 20) rfl rfl Try.func9 (by kernel_rfl) rfl #[] rfl (by (try simp only [List.map_toArray, List.map_cons, List.map_nil]); first | done | rfl | (simp only [List.length_drop, List.length_take]; rfl)) ?_; (with_reducible refine (gantletlaw10_awake.calls k  true _ A7.out).mono ?_); rintro e w13 ⟨rfl, hb⟩; refine ⟨_, rfl, ?_⟩; have n0_ := Aside0.mk (blk_below (g := gb212) (o := .cells #[.int .i64 a0_0, .int .i64 a0_1] 36 (0, 0)) (by (with_reducible repeat (first | refine blk_drewN ?_ _ | refine blk_drew ?_ | refine blk_alloc ?_ _)); exact BK212.out) hb); have n1_ := Aside0.mk (below_step (by repeat (first | (with_reducible first | exact HB.out | apply below_alloc | apply pw_below_drewN | apply below_drew1 | refine below_set ?_ GE212.out) | exact HB.out)) hb); clear BK212; clear HB; have BK212 := n0_; have HB := n1_; clear n0_ n1_; (try clear hb); (try clear hb2); (try clear hk); (try clear hi)))
          go_meet
          case rel => exact ⟨_, (decide ((a1.size : Int) > a0_1)), (by first | rfl | (simp; done) | (simp [*]; done)), H', ⟨by first | omega | exact Nat.le_refl _⟩, ⟨by (with_reducible repeat (first | refine blk_drewN ?_ _ | refine blk_drew ?_ | refine blk_alloc ?_ _)); exact BK212.out⟩, ⟨by repeat (first | (with_reducible first | exact HB.out | apply below_alloc | apply pw_below_drewN | apply below_drew1 | refine below_set ?_ GE212.out) | exact HB.out)⟩⟩
    · replace c8 := Bool.eq_false_iff.mpr c8
      subst c8
      have H1 : (gantletlaw10_NumberPure.j0 k a1 a2 a0_0 a0_1 true) = some r := by rw [if_neg (show ¬ (false = true) by decide)] at H; exact H
      clear H
      have H := H1
      clear H1
      have H' := Aside0.mk H
      clear H
      go_wp2_with (first | ((with_reducible refine gate_callee (f := 9) rfl ?_); refine goesL_ (some 20) rfl rfl Try.func9 (by kernel_rfl) rfl #[] rfl (by (try simp only [List.map_toArray, List.map_cons, List.map_nil]); first | done | rfl | (simp only [List.length_drop, List.length_take]; rfl)) ?_; (with_reducible refine (gantletlaw10_awake.calls k  false _ A7.out).mono ?_); rintro e w14 ⟨rfl, hb⟩; refine ⟨_, rfl, ?_⟩; have n0_ := Aside0.mk (blk_below (g := gb212) (o := .cells #[.int .i64 a0_0, .int .i64 a0_1] 36 (0, 0)) (by (with_reducible repeat (first | refine blk_drewN ?_ _ | refine blk_drew ?_ | refine blk_alloc ?_ _)); exact BK212.out) hb); have n1_ := Aside0.mk (below_step (by repeat (first | (with_reducible first | exact HB.out | apply below_alloc | apply pw_below_drewN | apply below_drew1 | refine below_set ?_ GE212.out) | exact HB.out)) hb); clear BK212; clear HB; have BK212 := n0_; have HB := n1_; clear n0_ n1_; (try clear hb); (try clear hb2); (try clear hk); (try clear hi)))
      go_meet
      case rel => exact ⟨_, (true), (by first | rfl | (simp; done) | (simp [*]; done)), H', ⟨by first | omega | exact Nat.le_refl _⟩, ⟨by (with_reducible repeat (first | refine blk_drewN ?_ _ | refine blk_drew ?_ | refine blk_alloc ?_ _)); exact BK212.out⟩, ⟨by repeat (first | (with_reducible first | exact HB.out | apply below_alloc | apply pw_below_drewN | apply below_drew1 | refine below_set ?_ GE212.out) | exact HB.out)⟩⟩
  case rest =>
    clear HC4
    try clear c1
    try clear p2
    try clear c7
    try clear c8
    try clear c9
    try clear c9b0
    try clear c9b1
    try clear c11
    try clear c11b0
    obtain ⟨kq, x36_3, rfl, HA, HJ3, BK212, HB⟩ := hcut
    cases kq with
    | zero => exact absurd HA.out (by simp [gantletlaw10_NumberPure.j0])
    | succ kj3 =>
      have H := HA.out
      clear HA
      simp only [gantletlaw10_NumberPure.j0] at H
      by_cases c15 : x36_3 = true
      · subst c15
        have H1 : ((gantletlaw10_awake.f kj3).bind fun t214 => (some t214)) = some r := by rw [if_pos rfl] at H; exact H
        clear H
        have H := H1
        clear H1
        replace H := Option.bind_eq_some_iff.mp H
        obtain ⟨t214, A160, H⟩ := H
        replace H : (some t214) = some r := H
        have A16 := Aside0.mk A160
        clear A160
        obtain rfl := Option.some.inj H
        go_wp2_with (first | ((with_reducible refine gate_callee (f := 9) rfl ?_); refine goesL_ (some 37) rfl rfl Try.func9 (by kernel_rfl) rfl #[] rfl (by (try simp only [List.map_toArray, List.map_cons, List.map_nil]); first | done | rfl | (simp only [List.length_drop, List.length_take]; rfl)) ?_; (with_reducible refine (gantletlaw10_awake.calls kj3  t214 _ A16.out).mono ?_); rintro e w17 ⟨rfl, hb⟩; refine ⟨_, rfl, ?_⟩; have n0_ := Aside0.mk (blk_below (g := gb212) (o := .cells #[.int .i64 a0_0, .int .i64 a0_1] 36 (0, 0)) (by (with_reducible repeat (first | refine blk_drewN ?_ _ | refine blk_drew ?_ | refine blk_alloc ?_ _)); exact BK212.out) hb); have n1_ := Aside0.mk (below_step (by repeat (first | (with_reducible first | exact HB.out | apply below_alloc | apply pw_below_drewN | apply below_drew1 | refine below_set ?_ GE212.out) | exact HB.out)) hb); clear BK212; clear HB; have BK212 := n0_; have HB := n1_; clear n0_ n1_; (try clear hb); (try clear hb2); (try clear hk); (try clear hi)))
        go_ret
        exact ⟨by first | rfl | (simp [errW_none, errW_some] <;> rfl) | (simp [*, errW_none, errW_some] <;> rfl), by repeat (first | (with_reducible first | exact HB.out | apply below_alloc | apply pw_below_drewN | apply below_drew1 | refine below_set ?_ GE212.out) | exact HB.out)⟩
      · replace c15 := Bool.eq_false_iff.mpr c15
        subst c15
        have H1 : ((number_Start.f kj3 a0_0 a0_1).bind fun bt215 => (gantletlaw10_NumberPure.l0 kj3 a1 a2 a0_0 a0_1 bt215.2.2.2.2 (a1.size : Int) 0 bt215.1 bt215.2.1 bt215.2.2.1 bt215.2.2.2.1)) = some r := by rw [if_neg (show ¬ (false = true) by decide)] at H; exact H
        clear H
        have H := H1
        clear H1
        replace H := Option.bind_eq_some_iff.mp H
        obtain ⟨⟨t215, t216, t217, t218, t219⟩, A180, H⟩ := H
        replace H : (gantletlaw10_NumberPure.l0 kj3 a1 a2 a0_0 a0_1 t219 (a1.size : Int) 0 t215 t216 t217 t218) = some r := H
        have A18 := Aside0.mk A180
        clear A180
        have H' := Aside0.mk H
        clear H
        go_wp2_with (first | ((with_reducible refine gate_callee (f := 11) rfl ?_); refine goesL_ (some 41) rfl rfl Try.func11 (by kernel_rfl) rfl #[.int .i64 a0_0, .int .i64 a0_1] rfl (by (try simp only [List.map_toArray, List.map_cons, List.map_nil]); first | done | rfl | (simp only [List.length_drop, List.length_take]; rfl)) ?_; (with_reducible refine (number_Start.calls kj3 a0_0 a0_1 t215 t216 t217 t218 t219 _ A18.out).mono ?_); rintro e w19 ⟨rfl, hb⟩; refine ⟨_, rfl, ?_⟩; have n0_ := Aside0.mk (blk_below (g := gb212) (o := .cells #[.int .i64 a0_0, .int .i64 a0_1] 36 (0, 0)) (by (with_reducible repeat (first | refine blk_drewN ?_ _ | refine blk_drew ?_ | refine blk_alloc ?_ _)); exact BK212.out) hb); have n1_ := Aside0.mk (below_step (by repeat (first | (with_reducible first | exact HB.out | apply below_alloc | apply pw_below_drewN | apply below_drew1 | refine below_set ?_ GE212.out) | exact HB.out)) hb); clear BK212; clear HB; have BK212 := n0_; have HB := n1_; clear n0_ n1_; (try clear hb); (try clear hb2); (try clear hk); (try clear hi)) | ((with_reducible refine gate_dst (N := 9) rfl ?_); (try (refine gate_guard (by rfl) ?_; dsimp only)); refine box_event ?hg (N := 9) ?hd (cs := #[.int .i64 0, .int .i64 0, .int .i64 0, .int .u8 0]) (t := 25) ?hr ?_; (case hd => rfl); (case hg => rfl); (case hr => first | (go_simp; done) | (go_simp; rfl)); intro gb220 hg w20 hbox hb; have n0_ := Aside0.mk (blk_below (g := gb212) (o := .cells #[.int .i64 a0_0, .int .i64 a0_1] 36 (0, 0)) (by (with_reducible repeat (first | refine blk_drewN ?_ _ | refine blk_drew ?_ | refine blk_alloc ?_ _)); exact BK212.out) hb); have n1_ := Aside0.mk (below_step (by repeat (first | (with_reducible first | exact HB.out | apply below_alloc | apply pw_below_drewN | apply below_drew1 | refine below_set ?_ GE212.out) | exact HB.out)) hb); have n2_ := Aside0.mk (hbox); have n3_ := Aside0.mk ((by rw [hg]; exact (below_size (by repeat (first | (with_reducible first | exact HB.out | apply below_alloc | apply pw_below_drewN | apply below_drew1 | refine below_set ?_ GE212.out) | exact HB.out))) : w.heap.size ≤ gb220)); have n4_ := Aside0.mk ((by rw [hg]; exact (below_size (by repeat (first | (with_reducible first | exact HB.out | apply below_alloc | apply pw_below_drewN | apply below_drew1 | refine below_set ?_ GE212.out) | exact HB.out))) : w.heap.size ≤ gb220)); have n5_ := Aside0.mk ((by rw [hg]; exact Nat.ne_of_lt (blk_lt (g := gb212) (o := .cells #[.int .i64 a0_0, .int .i64 a0_1] 36 (0, 0)) (by (with_reducible repeat (first | refine blk_drewN ?_ _ | refine blk_drew ?_ | refine blk_alloc ?_ _)); exact BK212.out)) : gb212 ≠ gb220)); have n6_ := Aside0.mk ((by rw [hg]; exact Nat.ne_of_gt (blk_lt (g := gb212) (o := .cells #[.int .i64 a0_0, .int .i64 a0_1] 36 (0, 0)) (by (with_reducible repeat (first | refine blk_drewN ?_ _ | refine blk_drew ?_ | refine blk_alloc ?_ _)); exact BK212.out)) : gb220 ≠ gb212)); clear BK212; clear HB; have BK212 := n0_; have HB := n1_; have BK220 := n2_; have GW220 := n3_; have GE220 := n4_; have NB212_220 := n5_; have NB220_212 := n6_; clear n0_ n1_ n2_ n3_ n4_ n5_ n6_; clear hb hbox hg; have hnb21 := NB220_212.out; have hnc21 := NB212_220.out; have hcz22_0 : w20.cell? ⟨gb220, 0, none⟩ = some (.int .i64 0) := (blk_cell BK220.out 0).trans rfl; have hcz22_1 : w20.cell? ⟨gb220, 1, none⟩ = some (.int .i64 0) := (blk_cell BK220.out 1).trans rfl; have hcz22_2 : w20.cell? ⟨gb220, 2, none⟩ = some (.int .i64 0) := (blk_cell BK220.out 2).trans rfl; have hcz22_3 : w20.cell? ⟨gb220, 3, none⟩ = some (.int .u8 0) := (blk_cell BK220.out 3).trans rfl; have hfz22_0 := blk_frozen BK220.out 0; have hfz22_1 := blk_frozen BK220.out 1; have hfz22_2 := blk_frozen BK220.out 2; have hfz22_3 := blk_frozen BK220.out 3))
        go_loopg [10, 46] kj3 (fun kq v10 v46 w' => ∃ (x10_2 : Bool) (x46_2 : Int) (x221000_2 : Int) (x221001_2 : Int) (x221002_2 : Int) (x221003_2 : Int), v10 = .bool x10_2 ∧ v46 = .int .i64 x46_2 ∧ Aside0 (gantletlaw10_NumberPure.l0 kq a1 a2 a0_0 a0_1 x10_2 (a1.size : Int) x46_2 x221000_2 x221001_2 x221002_2 x221003_2 = some r) ∧ Aside0 (kq ≤ kj3) ∧ Aside0 (w'.heap[gb212]? = some (.cells #[.int .i64 a0_0, .int .i64 a0_1] 36 (0, 0))) ∧ Aside0 (w'.heap[gb220]? = some (.cells #[.int .i64 x221000_2, .int .i64 x221001_2, .int .i64 x221002_2, .int .u8 x221003_2] 25 (0, 0))) ∧ Aside0 (Below w.heap.size w w'))
        case atStart => exact ⟨(t219), (0), (t215), (t216), (t217), (t218), (by first | rfl | (simp; done) | (simp [*]; done)), (by first | rfl | (simp; done) | (simp [*]; done)), H', ⟨Nat.le_refl _⟩, ⟨by (with_reducible repeat (first | refine blk_drewN ?_ _ | refine blk_drew ?_ | refine blk_alloc ?_ _)); refine blk_far ?_ NB212_220.out _; (with_reducible repeat (first | refine blk_drewN ?_ _ | refine blk_drew ?_ | refine blk_alloc ?_ _)); refine blk_far ?_ NB212_220.out _; (with_reducible repeat (first | refine blk_drewN ?_ _ | refine blk_drew ?_ | refine blk_alloc ?_ _)); refine blk_far ?_ NB212_220.out _; (with_reducible repeat (first | refine blk_drewN ?_ _ | refine blk_drew ?_ | refine blk_alloc ?_ _)); refine blk_far ?_ NB212_220.out _; (with_reducible repeat (first | refine blk_drewN ?_ _ | refine blk_drew ?_ | refine blk_alloc ?_ _)); exact BK212.out⟩, ⟨by (with_reducible repeat (first | refine blk_drewN ?_ _ | refine blk_drew ?_ | refine blk_alloc ?_ _)); refine blk_put (cs := #[.int .i64 t215, .int .i64 t216, .int .i64 t217, .int .u8 0]) ?_ 3 _ rfl; (with_reducible repeat (first | refine blk_drewN ?_ _ | refine blk_drew ?_ | refine blk_alloc ?_ _)); refine blk_put (cs := #[.int .i64 t215, .int .i64 t216, .int .i64 0, .int .u8 0]) ?_ 2 _ rfl; (with_reducible repeat (first | refine blk_drewN ?_ _ | refine blk_drew ?_ | refine blk_alloc ?_ _)); refine blk_put (cs := #[.int .i64 t215, .int .i64 0, .int .i64 0, .int .u8 0]) ?_ 1 _ rfl; (with_reducible repeat (first | refine blk_drewN ?_ _ | refine blk_drew ?_ | refine blk_alloc ?_ _)); refine blk_put (cs := #[.int .i64 0, .int .i64 0, .int .i64 0, .int .u8 0]) ?_ 0 _ rfl; (with_reducible repeat (first | refine blk_drewN ?_ _ | refine blk_drew ?_ | refine blk_alloc ?_ _)); exact BK220.out⟩, ⟨by repeat (first | (with_reducible first | exact HB.out | apply below_alloc | apply pw_below_drewN | apply below_drew1 | refine below_set ?_ GE212.out | refine below_set ?_ GE220.out) | exact HB.out)⟩⟩
        case round =>
          clear H'
          try clear c1
          try clear c2
          try clear p2
          try clear c7
          try clear c8
          try clear c9
          try clear c9b0
          try clear c9b1
          try clear c11
          try clear c11b0
          try clear c15
          try clear c21
          try clear hcz22_0
          try clear hcz22_1
          try clear hcz22_2
          try clear hcz22_3
          try clear hfz22_0
          try clear hfz22_1
          try clear hfz22_2
          try clear hfz22_3
          try clear p2
          obtain ⟨x10_2, x46_2, x221000_2, x221001_2, x221002_2, x221003_2, rfl, rfl, HA, HK2, BK212, BK220, HB⟩ := hrel
          cases gk with
          | zero => exact absurd HA.out (by simp [gantletlaw10_NumberPure.l0])
          | succ k2 =>
            have H := HA.out
            clear HA
            simp only [gantletlaw10_NumberPure.l0] at H
            by_cases c23 : x46_2 < (a1.size : Int)
            · rw [if_pos c23] at H
              have c23b0 : decide (x46_2 < (a1.size : Int)) = true := decide_eq_true c23
              clear c23
              by_cases c24 : x10_2 = true
              · subst c24
                have H1 : ((number_State_Push.f k2 x221000_2 x221001_2 x221002_2 x221003_2 a2).bind fun bt221 => (if 0 ≤ x46_2 then (if x46_2 < (a1.size : Int) then ((number_State_Push.f k2 x221000_2 x221001_2 x221002_2 x221003_2 (bt a1 x46_2)).bind fun bt226 => ((number_State_Push.f k2 x221000_2 x221001_2 x221002_2 x221003_2 (bt a1 x46_2)).bind fun bt232 => (if (bt226.2.2.2.2 != bt232.2.2.2.2) = true then (none) else (if 0 ≤ (wrap64 (x46_2 + 1)) then (if (wrap64 (x46_2 + 1)) ≤ (a1.size : Int) then ((gantletref10_Wrong.f k2 a0_0 a0_1 (a1.extract 0 ((wrap64 (x46_2 + 1)) : Int).toNat)).bind fun t238 => (if (bt226.2.2.2.2 != (t238 != (wrap64 (x46_2 + 1)))) = true then (none) else (gantletlaw10_NumberPure.l0 k2 a1 a2 a0_0 a0_1 bt226.2.2.2.2 (a1.size : Int) (wrap64 (x46_2 + 1)) bt226.1 bt226.2.1 bt226.2.2.1 bt226.2.2.2.1))) else (none)) else (none))))) else (none)) else (none))) = some r := by rw [if_pos rfl] at H; exact H
                clear H
                have H := H1
                clear H1
                replace H := Option.bind_eq_some_iff.mp H
                obtain ⟨⟨t221, t222, t223, t224, t225⟩, A250, H⟩ := H
                replace H : (if 0 ≤ x46_2 then (if x46_2 < (a1.size : Int) then ((number_State_Push.f k2 x221000_2 x221001_2 x221002_2 x221003_2 (bt a1 x46_2)).bind fun bt226 => ((number_State_Push.f k2 x221000_2 x221001_2 x221002_2 x221003_2 (bt a1 x46_2)).bind fun bt232 => (if (bt226.2.2.2.2 != bt232.2.2.2.2) = true then (none) else (if 0 ≤ (wrap64 (x46_2 + 1)) then (if (wrap64 (x46_2 + 1)) ≤ (a1.size : Int) then ((gantletref10_Wrong.f k2 a0_0 a0_1 (a1.extract 0 ((wrap64 (x46_2 + 1)) : Int).toNat)).bind fun t238 => (if (bt226.2.2.2.2 != (t238 != (wrap64 (x46_2 + 1)))) = true then (none) else (gantletlaw10_NumberPure.l0 k2 a1 a2 a0_0 a0_1 bt226.2.2.2.2 (a1.size : Int) (wrap64 (x46_2 + 1)) bt226.1 bt226.2.1 bt226.2.2.1 bt226.2.2.2.1))) else (none)) else (none))))) else (none)) else (none)) = some r := H
                have A25 := Aside0.mk A250
                clear A250
                by_cases c26 : 0 ≤ x46_2
                · rw [if_pos c26] at H
                  have c26b0 : decide (0 ≤ x46_2) = true := decide_eq_true c26
                  clear c26
                  by_cases c27 : x46_2 < (a1.size : Int)
                  · rw [if_pos c27] at H
                    have c27b0 : decide (x46_2 < (a1.size : Int)) = true := decide_eq_true c27
                    clear c27
                    replace H := Option.bind_eq_some_iff.mp H
                    obtain ⟨⟨t226, t227, t228, t229, t230⟩, A290, H⟩ := H
                    replace H : ((number_State_Push.f k2 x221000_2 x221001_2 x221002_2 x221003_2 (bt a1 x46_2)).bind fun bt232 => (if (t230 != bt232.2.2.2.2) = true then (none) else (if 0 ≤ (wrap64 (x46_2 + 1)) then (if (wrap64 (x46_2 + 1)) ≤ (a1.size : Int) then ((gantletref10_Wrong.f k2 a0_0 a0_1 (a1.extract 0 ((wrap64 (x46_2 + 1)) : Int).toNat)).bind fun t238 => (if (t230 != (t238 != (wrap64 (x46_2 + 1)))) = true then (none) else (gantletlaw10_NumberPure.l0 k2 a1 a2 a0_0 a0_1 t230 (a1.size : Int) (wrap64 (x46_2 + 1)) t226 t227 t228 t229))) else (none)) else (none)))) = some r := H
                    have A29 := Aside0.mk A290
                    clear A290
                    replace H := Option.bind_eq_some_iff.mp H
                    obtain ⟨⟨t232, t233, t234, t235, t236⟩, A310, H⟩ := H
                    replace H : (if (t230 != t236) = true then (none) else (if 0 ≤ (wrap64 (x46_2 + 1)) then (if (wrap64 (x46_2 + 1)) ≤ (a1.size : Int) then ((gantletref10_Wrong.f k2 a0_0 a0_1 (a1.extract 0 ((wrap64 (x46_2 + 1)) : Int).toNat)).bind fun t238 => (if (t230 != (t238 != (wrap64 (x46_2 + 1)))) = true then (none) else (gantletlaw10_NumberPure.l0 k2 a1 a2 a0_0 a0_1 t230 (a1.size : Int) (wrap64 (x46_2 + 1)) t226 t227 t228 t229))) else (none)) else (none))) = some r := H
                    have A31 := Aside0.mk A310
                    clear A310
                    by_cases c32 : (t230 != t236) = true
                    · rw [if_pos c32] at H
                      exact absurd H (by simp)
                    · rw [if_neg c32] at H
                      have c32b0 : (t230 != t236) = false := by simpa using c32
                      (try (have c32b1 : decide (t230 = t236) = true := by simpa using c32))
                      (try (have c32b2 : (t230 == t236) = true := by simpa using c32))
                      clear c32
                      obtain ⟨ji33, hji33⟩ : ∃ j_ : Int, (wrap64 (x46_2 + 1)) = j_ := ⟨_, rfl⟩
                      replace H : (if 0 ≤ (ji33) then (if (ji33) ≤ (a1.size : Int) then ((gantletref10_Wrong.f k2 a0_0 a0_1 (a1.extract 0 ((ji33) : Int).toNat)).bind fun t238 => (if (t230 != (t238 != (ji33))) = true then (none) else (gantletlaw10_NumberPure.l0 k2 a1 a2 a0_0 a0_1 t230 (a1.size : Int) ji33 t226 t227 t228 t229))) else (none)) else (none)) = some r := by first | (rw [hji33] at H; exact H) | (simp only [hji33] at H ⊢; exact H)
                      (try rw [hji33] at A25)
                      (try rw [hji33] at A29)
                      (try rw [hji33] at A31)
                      have hji33w : (IntKind.i64.wrap (x46_2 + 1)) = ji33 := (i64_w _).trans hji33
                      by_cases c34 : 0 ≤ (ji33)
                      · rw [if_pos c34] at H
                        have c34b0 := eq_true c34
                        have c34b1 : decide (0 ≤ (ji33)) = true := decide_eq_true c34
                        clear c34
                        by_cases c35 : (ji33) ≤ (a1.size : Int)
                        · rw [if_pos c35] at H
                          have c35b0 := eq_true c35
                          have c35b1 : decide ((ji33) ≤ (a1.size : Int)) = true := decide_eq_true c35
                          clear c35
                          replace H := Option.bind_eq_some_iff.mp H
                          obtain ⟨t238, A360, H⟩ := H
                          replace H : (if (t230 != (t238 != (ji33))) = true then (none) else (gantletlaw10_NumberPure.l0 k2 a1 a2 a0_0 a0_1 t230 (a1.size : Int) ji33 t226 t227 t228 t229)) = some r := H
                          have A36 := Aside0.mk A360
                          clear A360
                          by_cases c37 : (t230 != (t238 != (ji33))) = true
                          · rw [if_pos c37] at H
                            exact absurd H (by simp)
                          · rw [if_neg c37] at H
                            have c37b0 : (t230 != (t238 != (ji33))) = false := by simpa using c37
                            (try (have c37b1 : decide (t230 = (t238 != (ji33))) = true := by simpa using c37))
                            (try (have c37b2 : (t230 == (t238 != (ji33))) = true := by simpa using c37))
                            clear c37
                            have H' := Aside0.mk H
                            clear H
                            have hnb38 := NB220_212.out
                            have hnc38 := NB212_220.out
                            have hcz39_0 : wr.cell? ⟨gb220, 0, none⟩ = some (.int .i64 x221000_2) := (blk_cell BK220.out 0).trans rfl
                            have hcz39_1 : wr.cell? ⟨gb220, 1, none⟩ = some (.int .i64 x221001_2) := (blk_cell BK220.out 1).trans rfl
                            have hcz39_2 : wr.cell? ⟨gb220, 2, none⟩ = some (.int .i64 x221002_2) := (blk_cell BK220.out 2).trans rfl
                            have hcz39_3 : wr.cell? ⟨gb220, 3, none⟩ = some (.int .u8 x221003_2) := (blk_cell BK220.out 3).trans rfl
                            have hfz39_0 := blk_frozen BK220.out 0
                            have hfz39_1 := blk_frozen BK220.out 1
                            have hfz39_2 := blk_frozen BK220.out 2
                            have hfz39_3 := blk_frozen BK220.out 3
                            try go_wp2_with (first | ((with_reducible refine gate_callee (f := 12) rfl ?_); refine goesL_ (some 53) rfl rfl Try.func12 (by kernel_rfl) rfl #[.agg #[.int .i64 x221000_2, .int .i64 x221001_2, .int .i64 x221002_2, .int .u8 x221003_2], .int .u8 a2] rfl (by (try simp only [List.map_toArray, List.map_cons, List.map_nil]); first | done | rfl | (simp only [List.length_drop, List.length_take]; rfl)) ?_; (with_reducible refine (number_State_Push.calls k2 x221000_2 x221001_2 x221002_2 x221003_2 a2 t221 t222 t223 t224 t225 _ A25.out).mono ?_); rintro e w40 ⟨rfl, hb⟩; refine ⟨_, rfl, ?_⟩; have n0_ := Aside0.mk (blk_below (g := gb212) (o := .cells #[.int .i64 a0_0, .int .i64 a0_1] 36 (0, 0)) (by (with_reducible repeat (first | refine blk_drewN ?_ _ | refine blk_drew ?_ | refine blk_alloc ?_ _)); exact BK212.out) hb); have n1_ := Aside0.mk (blk_below (g := gb220) (o := .cells #[.int .i64 x221000_2, .int .i64 x221001_2, .int .i64 x221002_2, .int .u8 x221003_2] 25 (0, 0)) (by (with_reducible repeat (first | refine blk_drewN ?_ _ | refine blk_drew ?_ | refine blk_alloc ?_ _)); exact BK220.out) hb); have n2_ := Aside0.mk (below_step (by repeat (first | (with_reducible first | exact HB.out | apply below_alloc | apply pw_below_drewN | apply below_drew1 | refine below_set ?_ GE212.out | refine below_set ?_ GE220.out) | exact HB.out)) hb); clear BK212; clear BK220; clear HB; have BK212 := n0_; have BK220 := n1_; have HB := n2_; clear n0_ n1_ n2_; (try clear hb); (try clear hb2); (try clear hk); (try clear hi)))
                            have n0_ := Aside0.mk (blk_drew BK212.out)
                            have n1_ := Aside0.mk (blk_drew BK220.out)
                            have n2_ := Aside0.mk (below_drew1 HB.out)
                            clear BK212
                            clear BK220
                            clear HB
                            have BK212 := n0_
                            have BK220 := n1_
                            have HB := n2_
                            clear n0_ n1_ n2_
                            have p28 : 0 ≤ (x46_2 : Int) := of_decide_eq_true (by first | (with_reducible assumption) | assumption)
                            have q28 : x46_2 < (a1.size : Int) := of_decide_eq_true (by first | (with_reducible assumption) | assumption)
                            have hx28 := bt_at a1 x46_2
                            replace p28 := eq_true p28
                            replace q28 := eq_true q28
                            refine start_ (n := 11) (S := fun w' => w'.cell? ⟨gb220, 0, none⟩ = some (.int .i64 x221000_2) ∧ w'.cell? ⟨gb220, 1, none⟩ = some (.int .i64 x221001_2) ∧ w'.cell? ⟨gb220, 2, none⟩ = some (.int .i64 x221002_2) ∧ w'.cell? ⟨gb220, 3, none⟩ = some (.int .u8 x221003_2)) (ds := []) #[false, false, false, false, false, false, false, false, false, false, false] (by kernel_rfl) rfl rfl ⟨(blk_cell BK220.out 0).trans rfl, (blk_cell BK220.out 1).trans rfl, (blk_cell BK220.out 2).trans rfl, (blk_cell BK220.out 3).trans rfl⟩ (fun hHeld => ?_); refine with_tabW gantletlaw10_NumberPure.tab11 gantletlaw10_NumberPure.bits11 (fun HT_ HW_ => ?_)
                            generalize w40.drew = w41 at BK212 BK220 HB hHeld ⊢
                            refine pure_ (i := 1) (N := some 56) (v := ?_) (a' := ?_) #[false, true, false, false, false, false, false, false, false, false, false] rfl rfl (any_of HT_.out (by kernel_rfl)) (fun _ _ _ h => h) (Or.inl ⟨by rfl, ?_⟩) ?_ ?_
                            rotate_left
                            · intro w'
                              go_simp
                              with_reducible rfl
                            rotate_left
                            · simp only [Act.put, List.setIfInBounds_toArray, List.set_cons_zero, List.set_cons_succ, i64_w, i32_w]
                              rfl
                            refine pure_ (i := 2) (N := some 57) (v := ?_) (a' := ?_) #[false, true, true, false, false, false, false, false, false, false, false] rfl rfl (any_of HT_.out (by kernel_rfl)) (fun _ _ _ h => h) (Or.inl ⟨by rfl, ?_⟩) ?_ ?_
                            rotate_left
                            · intro w'
                              go_simp
                              with_reducible rfl
                            rotate_left
                            · simp only [Act.put, List.setIfInBounds_toArray, List.set_cons_zero, List.set_cons_succ, i64_w, i32_w]
                              rfl
                            refine take_ (i := 0) (N := some 55) (v := ?_) (a' := ?_) #[true, true, true, false, false, false, false, false, false, false, false] rfl rfl (take_ofW HT_.out HW_.out (by kernel_rfl)) (fun _ _ _ h => h) (Or.inl ⟨by rfl, ?_⟩) hHeld ?_ ?_
                            rotate_left
                            · rintro w' ⟨s0, s1, s2, s3⟩
                              go_simp
                              with_reducible rfl
                            rotate_left
                            · simp only [Act.put, List.setIfInBounds_toArray, List.set_cons_zero, List.set_cons_succ, i64_w, i32_w]
                              rfl
                            refine take_ (i := 3) (N := some 58) (v := ?_) (a' := ?_) #[true, true, true, true, false, false, false, false, false, false, false] rfl rfl (take_ofW HT_.out HW_.out (by kernel_rfl)) (fun _ _ _ h => h) (Or.inl ⟨by rfl, ?_⟩) hHeld ?_ ?_
                            rotate_left
                            · rintro w' ⟨s0, s1, s2, s3⟩
                              go_simp
                              with_reducible rfl
                            rotate_left
                            · simp only [Act.put, List.setIfInBounds_toArray, List.set_cons_zero, List.set_cons_succ, i64_w, i32_w]
                              rfl
                            refine join_ (σ := Nat) 2 #[true, true, true, true, true, true, true, true, true, false, false] (fun s_ => [(59, .tuple #[.agg #[.int .i64 t226, .int .i64 t227, .int .i64 t228, .int .u8 t229], .bool t230]), (12, .pointer (some ⟨s_, 0, none⟩)), (54, .tuple #[.agg #[.int .i64 t226, .int .i64 t227, .int .i64 t228, .int .u8 t229], .bool t230]), (60, .agg #[.int .i64 t226, .int .i64 t227, .int .i64 t228, .int .u8 t229]), (61, .bool t230)]) (fun s_ w' => (w'.cell? ⟨gb220, 0, none⟩ = some (.int .i64 x221000_2) ∧ w'.cell? ⟨gb220, 1, none⟩ = some (.int .i64 x221001_2) ∧ w'.cell? ⟨gb220, 2, none⟩ = some (.int .i64 x221002_2) ∧ w'.cell? ⟨gb220, 3, none⟩ = some (.int .u8 x221003_2)) ∧ (w'.heap[gb212]? = some (.cells #[.int .i64 a0_0, .int .i64 a0_1] 36 (0, 0))) ∧ (w'.heap[gb220]? = some (.cells #[.int .i64 x221000_2, .int .i64 x221001_2, .int .i64 x221002_2, .int .u8 x221003_2] 25 (0, 0))) ∧ (w'.heap[s_]? = some (.cells #[.int .i64 0, .int .i64 0, .int .i64 0, .int .u8 0] 25 (0, 0))) ∧ (w.heap.size ≤ s_) ∧ (w.heap.size ≤ s_) ∧ (gb212 ≠ s_) ∧ (s_ ≠ gb212) ∧ (gb220 ≠ s_) ∧ (s_ ≠ gb220) ∧ (Below w.heap.size w w')) ?_ ?_
                            rotate_left
                            · intro hCont
                              refine two_ (i := 4) (j := 8) (Ni := some 59) (Nj := some 12) #[true, true, true, true, true, false, false, false, false, false, false] #[true, true, true, true, false, false, false, false, true, false, false] rfl rfl rfl rfl (two_of HT_.out (by kernel_rfl)) (by decide) (by decide) (fun K hK => ?_) (fun K hK => ?_)
                              · skip
                                refine goes_ Try.func12 (by kernel_rfl) rfl #[.agg #[.int .i64 x221000_2, .int .i64 x221001_2, .int .i64 x221002_2, .int .u8 x221003_2], .int .u8 (bt a1 x46_2)] (by rfl) rfl rfl (by (try simp only [List.map_toArray, List.map_cons, List.map_nil]); first | done | rfl | (simp only [List.length_drop, List.length_take]; rfl)) ?_
                                with_reducible refine (number_State_Push.calls k2 x221000_2 x221001_2 x221002_2 x221003_2 (bt a1 x46_2) t226 t227 t228 t229 t230 _ A29.out).mono ?_
                                rintro e w42 ⟨rfl, hb⟩
                                refine ⟨_, rfl, ?_⟩
                                have n0_ := Aside0.mk (blk_below (g := gb212) (o := .cells #[.int .i64 a0_0, .int .i64 a0_1] 36 (0, 0)) (by (with_reducible repeat (first | refine blk_drewN ?_ _ | refine blk_drew ?_ | refine blk_alloc ?_ _)); exact BK212.out) hb)
                                have n1_ := Aside0.mk (blk_below (g := gb220) (o := .cells #[.int .i64 x221000_2, .int .i64 x221001_2, .int .i64 x221002_2, .int .u8 x221003_2] 25 (0, 0)) (by (with_reducible repeat (first | refine blk_drewN ?_ _ | refine blk_drew ?_ | refine blk_alloc ?_ _)); exact BK220.out) hb)
                                have n2_ := Aside0.mk (below_step (by repeat (first | (with_reducible first | exact HB.out | apply below_alloc | apply pw_below_drewN | apply below_drew1 | refine below_set ?_ GE212.out | refine below_set ?_ GE220.out) | exact HB.out)) hb)
                                clear BK212
                                clear BK220
                                clear HB
                                have BK212 := n0_
                                have BK220 := n1_
                                have HB := n2_
                                clear n0_ n1_ n2_
                                (try clear hb)
                                (try clear hb2)
                                (try clear hk)
                                (try clear hi)
                                refine hK.out _ _ ⟨(blk_cell BK220.out 0).trans rfl, (blk_cell BK220.out 1).trans rfl, (blk_cell BK220.out 2).trans rfl, (blk_cell BK220.out 3).trans rfl⟩ (fun hHeld => ?_)
                                clear hK K
                                refine norm_ (a' := ?_) ?_ ?_
                                rotate_left
                                · show Act.put _ (some 59) _ = _
                                  simp only [Act.put, List.setIfInBounds_toArray, List.set_cons_zero, List.set_cons_succ, i64_w, i32_w]
                                  rfl
                                refine pure_ (i := 5) (N := some 54) (v := ?_) (a' := ?_) #[true, true, true, true, true, true, false, false, false, false, false] rfl rfl (any_of HT_.out (by kernel_rfl)) (fun _ _ _ h => h) (Or.inl ⟨by rfl, ?_⟩) ?_ ?_
                                rotate_left
                                · intro w'
                                  go_simp
                                  with_reducible rfl
                                rotate_left
                                · simp only [Act.put, List.setIfInBounds_toArray, List.set_cons_zero, List.set_cons_succ, i64_w, i32_w]
                                  rfl
                                refine pure_ (i := 6) (N := some 60) (v := ?_) (a' := ?_) #[true, true, true, true, true, true, true, false, false, false, false] rfl rfl (any_of HT_.out (by kernel_rfl)) (fun _ _ _ h => h) (Or.inl ⟨by rfl, ?_⟩) ?_ ?_
                                rotate_left
                                · intro w'
                                  go_simp
                                  with_reducible rfl
                                rotate_left
                                · simp only [Act.put, List.setIfInBounds_toArray, List.set_cons_zero, List.set_cons_succ, i64_w, i32_w]
                                  rfl
                                refine pure_ (i := 7) (N := some 61) (v := ?_) (a' := ?_) #[true, true, true, true, true, true, true, true, false, false, false] rfl rfl (any_of HT_.out (by kernel_rfl)) (fun _ _ _ h => h) (Or.inl ⟨by rfl, ?_⟩) ?_ ?_
                                rotate_left
                                · intro w'
                                  go_simp
                                  with_reducible rfl
                                rotate_left
                                · simp only [Act.put, List.setIfInBounds_toArray, List.set_cons_zero, List.set_cons_succ, i64_w, i32_w]
                                  rfl
                                refine one_ (i := 8) (N := some 12) #[true, true, true, true, true, true, true, true, true, false, false] rfl rfl (one_of HT_.out (by kernel_rfl)) (by decide) (fun K hK => ?_)
                                refine box_step ?hg (N := 12) ?hd (cs := #[.int .i64 0, .int .i64 0, .int .i64 0, .int .u8 0]) (t := 25) ?hr ?_; (case hd => rfl); (case hg => rfl); (case hr => first | (go_simp; done) | (go_simp; rfl))
                                intro gb231 hg w43 hbox hb
                                have n0_ := Aside0.mk (blk_below (g := gb212) (o := .cells #[.int .i64 a0_0, .int .i64 a0_1] 36 (0, 0)) (by (with_reducible repeat (first | refine blk_drewN ?_ _ | refine blk_drew ?_ | refine blk_alloc ?_ _)); exact BK212.out) hb)
                                have n1_ := Aside0.mk (blk_below (g := gb220) (o := .cells #[.int .i64 x221000_2, .int .i64 x221001_2, .int .i64 x221002_2, .int .u8 x221003_2] 25 (0, 0)) (by (with_reducible repeat (first | refine blk_drewN ?_ _ | refine blk_drew ?_ | refine blk_alloc ?_ _)); exact BK220.out) hb)
                                have n2_ := Aside0.mk (below_step (by repeat (first | (with_reducible first | exact HB.out | apply below_alloc | apply pw_below_drewN | apply below_drew1 | refine below_set ?_ GE212.out | refine below_set ?_ GE220.out) | exact HB.out)) hb)
                                have n3_ := Aside0.mk (hbox)
                                have n4_ := Aside0.mk ((by rw [hg]; exact (below_size (by repeat (first | (with_reducible first | exact HB.out | apply below_alloc | apply pw_below_drewN | apply below_drew1 | refine below_set ?_ GE212.out | refine below_set ?_ GE220.out) | exact HB.out))) : w.heap.size ≤ gb231))
                                have n5_ := Aside0.mk ((by rw [hg]; exact (below_size (by repeat (first | (with_reducible first | exact HB.out | apply below_alloc | apply pw_below_drewN | apply below_drew1 | refine below_set ?_ GE212.out | refine below_set ?_ GE220.out) | exact HB.out))) : w.heap.size ≤ gb231))
                                have n6_ := Aside0.mk ((by rw [hg]; exact Nat.ne_of_lt (blk_lt (g := gb212) (o := .cells #[.int .i64 a0_0, .int .i64 a0_1] 36 (0, 0)) (by (with_reducible repeat (first | refine blk_drewN ?_ _ | refine blk_drew ?_ | refine blk_alloc ?_ _)); exact BK212.out)) : gb212 ≠ gb231))
                                have n7_ := Aside0.mk ((by rw [hg]; exact Nat.ne_of_gt (blk_lt (g := gb212) (o := .cells #[.int .i64 a0_0, .int .i64 a0_1] 36 (0, 0)) (by (with_reducible repeat (first | refine blk_drewN ?_ _ | refine blk_drew ?_ | refine blk_alloc ?_ _)); exact BK212.out)) : gb231 ≠ gb212))
                                have n8_ := Aside0.mk ((by rw [hg]; exact Nat.ne_of_lt (blk_lt (g := gb220) (o := .cells #[.int .i64 x221000_2, .int .i64 x221001_2, .int .i64 x221002_2, .int .u8 x221003_2] 25 (0, 0)) (by (with_reducible repeat (first | refine blk_drewN ?_ _ | refine blk_drew ?_ | refine blk_alloc ?_ _)); exact BK220.out)) : gb220 ≠ gb231))
                                have n9_ := Aside0.mk ((by rw [hg]; exact Nat.ne_of_gt (blk_lt (g := gb220) (o := .cells #[.int .i64 x221000_2, .int .i64 x221001_2, .int .i64 x221002_2, .int .u8 x221003_2] 25 (0, 0)) (by (with_reducible repeat (first | refine blk_drewN ?_ _ | refine blk_drew ?_ | refine blk_alloc ?_ _)); exact BK220.out)) : gb231 ≠ gb220))
                                clear BK212
                                clear BK220
                                clear HB
                                have BK212 := n0_
                                have BK220 := n1_
                                have HB := n2_
                                have BK231 := n3_
                                have GW231 := n4_
                                have GE231 := n5_
                                have NB212_231 := n6_
                                have NB231_212 := n7_
                                have NB220_231 := n8_
                                have NB231_220 := n9_
                                clear n0_ n1_ n2_ n3_ n4_ n5_ n6_ n7_ n8_ n9_
                                clear hb hbox hg
                                refine hK.out _ _ ⟨(blk_cell BK220.out 0).trans rfl, (blk_cell BK220.out 1).trans rfl, (blk_cell BK220.out 2).trans rfl, (blk_cell BK220.out 3).trans rfl⟩ (fun hHeld => ?_)
                                clear hK K
                                refine norm_ (a' := ?_) ?_ ?_
                                rotate_left
                                · show Act.put _ (some 12) _ = _
                                  simp only [Act.put, List.setIfInBounds_toArray, List.set_cons_zero, List.set_cons_succ, i64_w, i32_w]
                                  rfl
                                exact norm_ (by simp only [putAll, Act.put, List.setIfInBounds_toArray, List.set_cons_zero, List.set_cons_succ]) (hCont (gb231) _ ⟨hHeld, (by (with_reducible repeat (first | refine blk_drewN ?_ _ | refine blk_drew ?_ | refine blk_alloc ?_ _)); exact BK212.out), (by (with_reducible repeat (first | refine blk_drewN ?_ _ | refine blk_drew ?_ | refine blk_alloc ?_ _)); exact BK220.out), (by (with_reducible repeat (first | refine blk_drewN ?_ _ | refine blk_drew ?_ | refine blk_alloc ?_ _)); exact BK231.out), GW231.out, GE231.out, NB212_231.out, NB231_212.out, NB220_231.out, NB231_220.out, (by repeat (first | (with_reducible first | exact HB.out | apply below_alloc | apply pw_below_drewN | apply below_drew1 | refine below_set ?_ GE212.out | refine below_set ?_ GE220.out | refine below_set ?_ GE231.out) | exact HB.out))⟩)
                              · skip
                                refine box_step ?hg (N := 12) ?hd (cs := #[.int .i64 0, .int .i64 0, .int .i64 0, .int .u8 0]) (t := 25) ?hr ?_; (case hd => rfl); (case hg => rfl); (case hr => first | (go_simp; done) | (go_simp; rfl))
                                intro gb231 hg w42 hbox hb
                                have n0_ := Aside0.mk (blk_below (g := gb212) (o := .cells #[.int .i64 a0_0, .int .i64 a0_1] 36 (0, 0)) (by (with_reducible repeat (first | refine blk_drewN ?_ _ | refine blk_drew ?_ | refine blk_alloc ?_ _)); exact BK212.out) hb)
                                have n1_ := Aside0.mk (blk_below (g := gb220) (o := .cells #[.int .i64 x221000_2, .int .i64 x221001_2, .int .i64 x221002_2, .int .u8 x221003_2] 25 (0, 0)) (by (with_reducible repeat (first | refine blk_drewN ?_ _ | refine blk_drew ?_ | refine blk_alloc ?_ _)); exact BK220.out) hb)
                                have n2_ := Aside0.mk (below_step (by repeat (first | (with_reducible first | exact HB.out | apply below_alloc | apply pw_below_drewN | apply below_drew1 | refine below_set ?_ GE212.out | refine below_set ?_ GE220.out) | exact HB.out)) hb)
                                have n3_ := Aside0.mk (hbox)
                                have n4_ := Aside0.mk ((by rw [hg]; exact (below_size (by repeat (first | (with_reducible first | exact HB.out | apply below_alloc | apply pw_below_drewN | apply below_drew1 | refine below_set ?_ GE212.out | refine below_set ?_ GE220.out) | exact HB.out))) : w.heap.size ≤ gb231))
                                have n5_ := Aside0.mk ((by rw [hg]; exact (below_size (by repeat (first | (with_reducible first | exact HB.out | apply below_alloc | apply pw_below_drewN | apply below_drew1 | refine below_set ?_ GE212.out | refine below_set ?_ GE220.out) | exact HB.out))) : w.heap.size ≤ gb231))
                                have n6_ := Aside0.mk ((by rw [hg]; exact Nat.ne_of_lt (blk_lt (g := gb212) (o := .cells #[.int .i64 a0_0, .int .i64 a0_1] 36 (0, 0)) (by (with_reducible repeat (first | refine blk_drewN ?_ _ | refine blk_drew ?_ | refine blk_alloc ?_ _)); exact BK212.out)) : gb212 ≠ gb231))
                                have n7_ := Aside0.mk ((by rw [hg]; exact Nat.ne_of_gt (blk_lt (g := gb212) (o := .cells #[.int .i64 a0_0, .int .i64 a0_1] 36 (0, 0)) (by (with_reducible repeat (first | refine blk_drewN ?_ _ | refine blk_drew ?_ | refine blk_alloc ?_ _)); exact BK212.out)) : gb231 ≠ gb212))
                                have n8_ := Aside0.mk ((by rw [hg]; exact Nat.ne_of_lt (blk_lt (g := gb220) (o := .cells #[.int .i64 x221000_2, .int .i64 x221001_2, .int .i64 x221002_2, .int .u8 x221003_2] 25 (0, 0)) (by (with_reducible repeat (first | refine blk_drewN ?_ _ | refine blk_drew ?_ | refine blk_alloc ?_ _)); exact BK220.out)) : gb220 ≠ gb231))
                                have n9_ := Aside0.mk ((by rw [hg]; exact Nat.ne_of_gt (blk_lt (g := gb220) (o := .cells #[.int .i64 x221000_2, .int .i64 x221001_2, .int .i64 x221002_2, .int .u8 x221003_2] 25 (0, 0)) (by (with_reducible repeat (first | refine blk_drewN ?_ _ | refine blk_drew ?_ | refine blk_alloc ?_ _)); exact BK220.out)) : gb231 ≠ gb220))
                                clear BK212
                                clear BK220
                                clear HB
                                have BK212 := n0_
                                have BK220 := n1_
                                have HB := n2_
                                have BK231 := n3_
                                have GW231 := n4_
                                have GE231 := n5_
                                have NB212_231 := n6_
                                have NB231_212 := n7_
                                have NB220_231 := n8_
                                have NB231_220 := n9_
                                clear n0_ n1_ n2_ n3_ n4_ n5_ n6_ n7_ n8_ n9_
                                clear hb hbox hg
                                refine hK.out _ _ ⟨(blk_cell BK220.out 0).trans rfl, (blk_cell BK220.out 1).trans rfl, (blk_cell BK220.out 2).trans rfl, (blk_cell BK220.out 3).trans rfl⟩ (fun hHeld => ?_)
                                clear hK K
                                refine norm_ (a' := ?_) ?_ ?_
                                rotate_left
                                · show Act.put _ (some 12) _ = _
                                  simp only [Act.put, List.setIfInBounds_toArray, List.set_cons_zero, List.set_cons_succ, i64_w, i32_w]
                                  rfl
                                refine one_ (i := 4) (N := some 59) #[true, true, true, true, true, false, false, false, true, false, false] rfl rfl (one_of HT_.out (by kernel_rfl)) (by decide) (fun K hK => ?_)
                                refine goes_ Try.func12 (by kernel_rfl) rfl #[.agg #[.int .i64 x221000_2, .int .i64 x221001_2, .int .i64 x221002_2, .int .u8 x221003_2], .int .u8 (bt a1 x46_2)] (by rfl) rfl rfl (by (try simp only [List.map_toArray, List.map_cons, List.map_nil]); first | done | rfl | (simp only [List.length_drop, List.length_take]; rfl)) ?_
                                with_reducible refine (number_State_Push.calls k2 x221000_2 x221001_2 x221002_2 x221003_2 (bt a1 x46_2) t226 t227 t228 t229 t230 _ A29.out).mono ?_
                                rintro e w43 ⟨rfl, hb⟩
                                refine ⟨_, rfl, ?_⟩
                                have n0_ := Aside0.mk (blk_below (g := gb212) (o := .cells #[.int .i64 a0_0, .int .i64 a0_1] 36 (0, 0)) (by (with_reducible repeat (first | refine blk_drewN ?_ _ | refine blk_drew ?_ | refine blk_alloc ?_ _)); exact BK212.out) hb)
                                have n1_ := Aside0.mk (blk_below (g := gb220) (o := .cells #[.int .i64 x221000_2, .int .i64 x221001_2, .int .i64 x221002_2, .int .u8 x221003_2] 25 (0, 0)) (by (with_reducible repeat (first | refine blk_drewN ?_ _ | refine blk_drew ?_ | refine blk_alloc ?_ _)); exact BK220.out) hb)
                                have n2_ := Aside0.mk (blk_below (g := gb231) (o := .cells #[.int .i64 0, .int .i64 0, .int .i64 0, .int .u8 0] 25 (0, 0)) (by (with_reducible repeat (first | refine blk_drewN ?_ _ | refine blk_drew ?_ | refine blk_alloc ?_ _)); exact BK231.out) hb)
                                have n3_ := Aside0.mk (below_step (by repeat (first | (with_reducible first | exact HB.out | apply below_alloc | apply pw_below_drewN | apply below_drew1 | refine below_set ?_ GE212.out | refine below_set ?_ GE220.out | refine below_set ?_ GE231.out) | exact HB.out)) hb)
                                clear BK212
                                clear BK220
                                clear BK231
                                clear HB
                                have BK212 := n0_
                                have BK220 := n1_
                                have BK231 := n2_
                                have HB := n3_
                                clear n0_ n1_ n2_ n3_
                                (try clear hb)
                                (try clear hb2)
                                (try clear hk)
                                (try clear hi)
                                refine hK.out _ _ ⟨(blk_cell BK220.out 0).trans rfl, (blk_cell BK220.out 1).trans rfl, (blk_cell BK220.out 2).trans rfl, (blk_cell BK220.out 3).trans rfl⟩ (fun hHeld => ?_)
                                clear hK K
                                refine norm_ (a' := ?_) ?_ ?_
                                rotate_left
                                · show Act.put _ (some 59) _ = _
                                  simp only [Act.put, List.setIfInBounds_toArray, List.set_cons_zero, List.set_cons_succ, i64_w, i32_w]
                                  rfl
                                refine pure_ (i := 5) (N := some 54) (v := ?_) (a' := ?_) #[true, true, true, true, true, true, false, false, true, false, false] rfl rfl (any_of HT_.out (by kernel_rfl)) (fun _ _ _ h => h) (Or.inl ⟨by rfl, ?_⟩) ?_ ?_
                                rotate_left
                                · intro w'
                                  go_simp
                                  with_reducible rfl
                                rotate_left
                                · simp only [Act.put, List.setIfInBounds_toArray, List.set_cons_zero, List.set_cons_succ, i64_w, i32_w]
                                  rfl
                                refine pure_ (i := 6) (N := some 60) (v := ?_) (a' := ?_) #[true, true, true, true, true, true, true, false, true, false, false] rfl rfl (any_of HT_.out (by kernel_rfl)) (fun _ _ _ h => h) (Or.inl ⟨by rfl, ?_⟩) ?_ ?_
                                rotate_left
                                · intro w'
                                  go_simp
                                  with_reducible rfl
                                rotate_left
                                · simp only [Act.put, List.setIfInBounds_toArray, List.set_cons_zero, List.set_cons_succ, i64_w, i32_w]
                                  rfl
                                refine pure_ (i := 7) (N := some 61) (v := ?_) (a' := ?_) #[true, true, true, true, true, true, true, true, true, false, false] rfl rfl (any_of HT_.out (by kernel_rfl)) (fun _ _ _ h => h) (Or.inl ⟨by rfl, ?_⟩) ?_ ?_
                                rotate_left
                                · intro w'
                                  go_simp
                                  with_reducible rfl
                                rotate_left
                                · simp only [Act.put, List.setIfInBounds_toArray, List.set_cons_zero, List.set_cons_succ, i64_w, i32_w]
                                  rfl
                                exact norm_ (by simp only [putAll, Act.put, List.setIfInBounds_toArray, List.set_cons_zero, List.set_cons_succ]) (hCont (gb231) _ ⟨hHeld, (by (with_reducible repeat (first | refine blk_drewN ?_ _ | refine blk_drew ?_ | refine blk_alloc ?_ _)); exact BK212.out), (by (with_reducible repeat (first | refine blk_drewN ?_ _ | refine blk_drew ?_ | refine blk_alloc ?_ _)); exact BK220.out), (by (with_reducible repeat (first | refine blk_drewN ?_ _ | refine blk_drew ?_ | refine blk_alloc ?_ _)); exact BK231.out), GW231.out, GE231.out, NB212_231.out, NB231_212.out, NB220_231.out, NB231_220.out, (by repeat (first | (with_reducible first | exact HB.out | apply below_alloc | apply pw_below_drewN | apply below_drew1 | refine below_set ?_ GE212.out | refine below_set ?_ GE220.out | refine below_set ?_ GE231.out) | exact HB.out))⟩)
                            rintro gb231 w44 ⟨hS_, h0_, h1_, h2_, h3_, h4_, h5_, h6_, h7_, h8_, h9_⟩
                            have n0_ : Aside0 (w44.heap[gb212]? = some (.cells #[.int .i64 a0_0, .int .i64 a0_1] 36 (0, 0))) := ⟨h0_⟩
                            have n1_ : Aside0 (w44.heap[gb220]? = some (.cells #[.int .i64 x221000_2, .int .i64 x221001_2, .int .i64 x221002_2, .int .u8 x221003_2] 25 (0, 0))) := ⟨h1_⟩
                            have n2_ : Aside0 (w44.heap[gb231]? = some (.cells #[.int .i64 0, .int .i64 0, .int .i64 0, .int .u8 0] 25 (0, 0))) := ⟨h2_⟩
                            have n3_ : Aside0 (w.heap.size ≤ gb231) := ⟨h3_⟩
                            have n4_ : Aside0 (w.heap.size ≤ gb231) := ⟨h4_⟩
                            have n5_ : Aside0 (gb212 ≠ gb231) := ⟨h5_⟩
                            have n6_ : Aside0 (gb231 ≠ gb212) := ⟨h6_⟩
                            have n7_ : Aside0 (gb220 ≠ gb231) := ⟨h7_⟩
                            have n8_ : Aside0 (gb231 ≠ gb220) := ⟨h8_⟩
                            have n9_ : Aside0 (Below w.heap.size w w44) := ⟨h9_⟩
                            clear BK212
                            clear BK220
                            clear HB
                            clear h0_ h1_ h2_ h3_ h4_ h5_ h6_ h7_ h8_ h9_
                            have BK212 := n0_
                            have BK220 := n1_
                            have BK231 := n2_
                            have GW231 := n3_
                            have GE231 := n4_
                            have NB212_231 := n5_
                            have NB231_212 := n6_
                            have NB220_231 := n7_
                            have NB231_220 := n8_
                            have HB := n9_
                            clear n0_ n1_ n2_ n3_ n4_ n5_ n6_ n7_ n8_ n9_
                            have hHeld : w44.cell? ⟨gb220, 0, none⟩ = some (.int .i64 x221000_2) ∧ w44.cell? ⟨gb220, 1, none⟩ = some (.int .i64 x221001_2) ∧ w44.cell? ⟨gb220, 2, none⟩ = some (.int .i64 x221002_2) ∧ w44.cell? ⟨gb220, 3, none⟩ = some (.int .u8 x221003_2) := hS_
                            refine norm_ (a' := ?_) ?_ ?_
                            rotate_left
                            · simp only [putAll, Act.put, List.setIfInBounds_toArray, List.set_cons_zero, List.set_cons_succ]
                              rfl
                            refine one_ (i := 9) (N := none) #[true, true, true, true, true, true, true, true, true, true, false] rfl rfl (one_of HT_.out (by kernel_rfl)) (by decide) (fun K hK => ?_)
                            have hs45 : w44.cell? ⟨gb231, 0, none⟩ = some (.int .i64 0) := (blk_cell BK231.out 0).trans rfl
                            have hfs45 := blk_frozen BK231.out 0
                            have hns45_0 := NB212_231.out
                            have hns45_1 := NB220_231.out
                            have hms45_0 := NB231_212.out
                            have hms45_1 := NB231_220.out
                            have hs46 : w44.cell? ⟨gb231, 1, none⟩ = some (.int .i64 0) := (blk_cell BK231.out 1).trans rfl
                            have hfs46 := blk_frozen BK231.out 1
                            have hns46_0 := NB212_231.out
                            have hns46_1 := NB220_231.out
                            have hms46_0 := NB231_212.out
                            have hms46_1 := NB231_220.out
                            have hs47 : w44.cell? ⟨gb231, 2, none⟩ = some (.int .i64 0) := (blk_cell BK231.out 2).trans rfl
                            have hfs47 := blk_frozen BK231.out 2
                            have hns47_0 := NB212_231.out
                            have hns47_1 := NB220_231.out
                            have hms47_0 := NB231_212.out
                            have hms47_1 := NB231_220.out
                            have hs48 : w44.cell? ⟨gb231, 3, none⟩ = some (.int .u8 0) := (blk_cell BK231.out 3).trans rfl
                            have hfs48 := blk_frozen BK231.out 3
                            have hns48_0 := NB212_231.out
                            have hns48_1 := NB220_231.out
                            have hms48_0 := NB231_212.out
                            have hms48_1 := NB231_220.out
                            refine skip_ (w1 := ?_) (by rfl) rfl ?_ ?_
                            rotate_left
                            · go_simp
                              rfl
                            refine hK.out _ _ ⟨((cell_far (p := ⟨gb231, _, none⟩) NB220_231.out _).trans (((cell_far (p := ⟨gb231, _, none⟩) NB220_231.out _).trans (((cell_far (p := ⟨gb231, _, none⟩) NB220_231.out _).trans (((cell_far (p := ⟨gb231, _, none⟩) NB220_231.out _).trans (hHeld.1)))))))), ((cell_far (p := ⟨gb231, _, none⟩) NB220_231.out _).trans (((cell_far (p := ⟨gb231, _, none⟩) NB220_231.out _).trans (((cell_far (p := ⟨gb231, _, none⟩) NB220_231.out _).trans (((cell_far (p := ⟨gb231, _, none⟩) NB220_231.out _).trans (hHeld.2.1)))))))), ((cell_far (p := ⟨gb231, _, none⟩) NB220_231.out _).trans (((cell_far (p := ⟨gb231, _, none⟩) NB220_231.out _).trans (((cell_far (p := ⟨gb231, _, none⟩) NB220_231.out _).trans (((cell_far (p := ⟨gb231, _, none⟩) NB220_231.out _).trans (hHeld.2.2.1)))))))), ((cell_far (p := ⟨gb231, _, none⟩) NB220_231.out _).trans (((cell_far (p := ⟨gb231, _, none⟩) NB220_231.out _).trans (((cell_far (p := ⟨gb231, _, none⟩) NB220_231.out _).trans (((cell_far (p := ⟨gb231, _, none⟩) NB220_231.out _).trans (hHeld.2.2.2))))))))⟩ (fun hHeld => ?_)
                            clear hK K
                            refine pure_ (i := 10) (N := some 13) (v := ?_) (a' := ?_) #[true, true, true, true, true, true, true, true, true, true, true] rfl rfl (any_of HT_.out (by kernel_rfl)) (fun _ _ _ h => h) (Or.inl ⟨by rfl, ?_⟩) ?_ ?_
                            rotate_left
                            · intro w'
                              go_simp
                              with_reducible rfl
                            rotate_left
                            · simp only [Act.put, List.setIfInBounds_toArray, List.set_cons_zero, List.set_cons_succ, i64_w, i32_w]
                              rfl
                            refine done_ (done_of HT_.out (by kernel_rfl)) ?_
                            try go_wp2
                            have n0_ : Aside0 (((((w44.setCell ⟨gb231, 0, none⟩ (.int .i64 t226)).setCell ⟨gb231, 1, none⟩ (.int .i64 t227)).setCell ⟨gb231, 2, none⟩ (.int .i64 t228)).setCell ⟨gb231, 3, none⟩ (.int .u8 t229)).heap[gb212]? = some (.cells #[.int .i64 a0_0, .int .i64 a0_1] 36 (0, 0))) := ⟨by (with_reducible repeat (first | refine blk_drewN ?_ _ | refine blk_drew ?_ | refine blk_alloc ?_ _)); refine blk_far ?_ NB212_231.out _; (with_reducible repeat (first | refine blk_drewN ?_ _ | refine blk_drew ?_ | refine blk_alloc ?_ _)); refine blk_far ?_ NB212_231.out _; (with_reducible repeat (first | refine blk_drewN ?_ _ | refine blk_drew ?_ | refine blk_alloc ?_ _)); refine blk_far ?_ NB212_231.out _; (with_reducible repeat (first | refine blk_drewN ?_ _ | refine blk_drew ?_ | refine blk_alloc ?_ _)); refine blk_far ?_ NB212_231.out _; (with_reducible repeat (first | refine blk_drewN ?_ _ | refine blk_drew ?_ | refine blk_alloc ?_ _)); exact BK212.out⟩
                            have n1_ : Aside0 (((((w44.setCell ⟨gb231, 0, none⟩ (.int .i64 t226)).setCell ⟨gb231, 1, none⟩ (.int .i64 t227)).setCell ⟨gb231, 2, none⟩ (.int .i64 t228)).setCell ⟨gb231, 3, none⟩ (.int .u8 t229)).heap[gb220]? = some (.cells #[.int .i64 x221000_2, .int .i64 x221001_2, .int .i64 x221002_2, .int .u8 x221003_2] 25 (0, 0))) := ⟨by (with_reducible repeat (first | refine blk_drewN ?_ _ | refine blk_drew ?_ | refine blk_alloc ?_ _)); refine blk_far ?_ NB220_231.out _; (with_reducible repeat (first | refine blk_drewN ?_ _ | refine blk_drew ?_ | refine blk_alloc ?_ _)); refine blk_far ?_ NB220_231.out _; (with_reducible repeat (first | refine blk_drewN ?_ _ | refine blk_drew ?_ | refine blk_alloc ?_ _)); refine blk_far ?_ NB220_231.out _; (with_reducible repeat (first | refine blk_drewN ?_ _ | refine blk_drew ?_ | refine blk_alloc ?_ _)); refine blk_far ?_ NB220_231.out _; (with_reducible repeat (first | refine blk_drewN ?_ _ | refine blk_drew ?_ | refine blk_alloc ?_ _)); exact BK220.out⟩
                            have n2_ : Aside0 (((((w44.setCell ⟨gb231, 0, none⟩ (.int .i64 t226)).setCell ⟨gb231, 1, none⟩ (.int .i64 t227)).setCell ⟨gb231, 2, none⟩ (.int .i64 t228)).setCell ⟨gb231, 3, none⟩ (.int .u8 t229)).heap[gb231]? = some (.cells #[.int .i64 t226, .int .i64 t227, .int .i64 t228, .int .u8 t229] 25 (0, 0))) := ⟨by (with_reducible repeat (first | refine blk_drewN ?_ _ | refine blk_drew ?_ | refine blk_alloc ?_ _)); refine blk_put (cs := #[.int .i64 t226, .int .i64 t227, .int .i64 t228, .int .u8 0]) ?_ 3 _ rfl; (with_reducible repeat (first | refine blk_drewN ?_ _ | refine blk_drew ?_ | refine blk_alloc ?_ _)); refine blk_put (cs := #[.int .i64 t226, .int .i64 t227, .int .i64 0, .int .u8 0]) ?_ 2 _ rfl; (with_reducible repeat (first | refine blk_drewN ?_ _ | refine blk_drew ?_ | refine blk_alloc ?_ _)); refine blk_put (cs := #[.int .i64 t226, .int .i64 0, .int .i64 0, .int .u8 0]) ?_ 1 _ rfl; (with_reducible repeat (first | refine blk_drewN ?_ _ | refine blk_drew ?_ | refine blk_alloc ?_ _)); refine blk_put (cs := #[.int .i64 0, .int .i64 0, .int .i64 0, .int .u8 0]) ?_ 0 _ rfl; (with_reducible repeat (first | refine blk_drewN ?_ _ | refine blk_drew ?_ | refine blk_alloc ?_ _)); exact BK231.out⟩
                            have n3_ : Aside0 (Below w.heap.size w ((((w44.setCell ⟨gb231, 0, none⟩ (.int .i64 t226)).setCell ⟨gb231, 1, none⟩ (.int .i64 t227)).setCell ⟨gb231, 2, none⟩ (.int .i64 t228)).setCell ⟨gb231, 3, none⟩ (.int .u8 t229))) := ⟨by repeat (first | (with_reducible first | exact HB.out | apply below_alloc | apply pw_below_drewN | apply below_drew1 | refine below_set ?_ GE212.out | refine below_set ?_ GE220.out | refine below_set ?_ GE231.out) | exact HB.out)⟩
                            (try clear BK212)
                            (try clear BK220)
                            (try clear BK231)
                            (try clear HB)
                            generalize ((((w44.setCell ⟨gb231, 0, none⟩ (.int .i64 t226)).setCell ⟨gb231, 1, none⟩ (.int .i64 t227)).setCell ⟨gb231, 2, none⟩ (.int .i64 t228)).setCell ⟨gb231, 3, none⟩ (.int .u8 t229)) = w49 at n0_ n1_ n2_ n3_ ⊢
                            have BK212 := n0_
                            have BK220 := n1_
                            have BK231 := n2_
                            have HB := n3_
                            clear n0_ n1_ n2_ n3_
                            have n0_ := Aside0.mk (blk_drew BK212.out)
                            have n1_ := Aside0.mk (blk_drew BK220.out)
                            have n2_ := Aside0.mk (blk_drew BK231.out)
                            have n3_ := Aside0.mk (below_drew1 HB.out)
                            clear BK212
                            clear BK220
                            clear BK231
                            clear HB
                            have BK212 := n0_
                            have BK220 := n1_
                            have BK231 := n2_
                            have HB := n3_
                            clear n0_ n1_ n2_ n3_
                            have p30 : 0 ≤ (x46_2 : Int) := of_decide_eq_true (by first | (with_reducible assumption) | assumption)
                            have q30 : x46_2 < (a1.size : Int) := of_decide_eq_true (by first | (with_reducible assumption) | assumption)
                            have hx30 := bt_at a1 x46_2
                            replace p30 := eq_true p30
                            replace q30 := eq_true q30
                            refine start_ (n := 11) (S := fun w' => w'.cell? ⟨gb220, 0, none⟩ = some (.int .i64 x221000_2) ∧ w'.cell? ⟨gb220, 1, none⟩ = some (.int .i64 x221001_2) ∧ w'.cell? ⟨gb220, 2, none⟩ = some (.int .i64 x221002_2) ∧ w'.cell? ⟨gb220, 3, none⟩ = some (.int .u8 x221003_2)) (ds := []) #[false, false, false, false, false, false, false, false, false, false, false] (by kernel_rfl) rfl rfl ⟨(blk_cell BK220.out 0).trans rfl, (blk_cell BK220.out 1).trans rfl, (blk_cell BK220.out 2).trans rfl, (blk_cell BK220.out 3).trans rfl⟩ (fun hHeld => ?_); refine with_tabW gantletlaw10_NumberPure.tab12 gantletlaw10_NumberPure.bits12 (fun HT_ HW_ => ?_)
                            generalize w49.drew = w50 at BK212 BK220 BK231 HB hHeld ⊢
                            refine pure_ (i := 1) (N := some 64) (v := ?_) (a' := ?_) #[false, true, false, false, false, false, false, false, false, false, false] rfl rfl (any_of HT_.out (by kernel_rfl)) (fun _ _ _ h => h) (Or.inl ⟨by rfl, ?_⟩) ?_ ?_
                            rotate_left
                            · intro w'
                              go_simp
                              with_reducible rfl
                            rotate_left
                            · simp only [Act.put, List.setIfInBounds_toArray, List.set_cons_zero, List.set_cons_succ, i64_w, i32_w]
                              rfl
                            refine pure_ (i := 2) (N := some 65) (v := ?_) (a' := ?_) #[false, true, true, false, false, false, false, false, false, false, false] rfl rfl (any_of HT_.out (by kernel_rfl)) (fun _ _ _ h => h) (Or.inl ⟨by rfl, ?_⟩) ?_ ?_
                            rotate_left
                            · intro w'
                              go_simp
                              with_reducible rfl
                            rotate_left
                            · simp only [Act.put, List.setIfInBounds_toArray, List.set_cons_zero, List.set_cons_succ, i64_w, i32_w]
                              rfl
                            refine take_ (i := 0) (N := some 63) (v := ?_) (a' := ?_) #[true, true, true, false, false, false, false, false, false, false, false] rfl rfl (take_ofW HT_.out HW_.out (by kernel_rfl)) (fun _ _ _ h => h) (Or.inl ⟨by rfl, ?_⟩) hHeld ?_ ?_
                            rotate_left
                            · rintro w' ⟨s0, s1, s2, s3⟩
                              go_simp
                              with_reducible rfl
                            rotate_left
                            · simp only [Act.put, List.setIfInBounds_toArray, List.set_cons_zero, List.set_cons_succ, i64_w, i32_w]
                              rfl
                            refine take_ (i := 3) (N := some 66) (v := ?_) (a' := ?_) #[true, true, true, true, false, false, false, false, false, false, false] rfl rfl (take_ofW HT_.out HW_.out (by kernel_rfl)) (fun _ _ _ h => h) (Or.inl ⟨by rfl, ?_⟩) hHeld ?_ ?_
                            rotate_left
                            · rintro w' ⟨s0, s1, s2, s3⟩
                              go_simp
                              with_reducible rfl
                            rotate_left
                            · simp only [Act.put, List.setIfInBounds_toArray, List.set_cons_zero, List.set_cons_succ, i64_w, i32_w]
                              rfl
                            refine join_ (σ := Nat) 2 #[true, true, true, true, true, true, true, true, true, false, false] (fun s_ => [(67, .tuple #[.agg #[.int .i64 t232, .int .i64 t233, .int .i64 t234, .int .u8 t235], .bool t236]), (14, .pointer (some ⟨s_, 0, none⟩)), (62, .tuple #[.agg #[.int .i64 t232, .int .i64 t233, .int .i64 t234, .int .u8 t235], .bool t236]), (68, .agg #[.int .i64 t232, .int .i64 t233, .int .i64 t234, .int .u8 t235]), (69, .bool t236)]) (fun s_ w' => (w'.cell? ⟨gb220, 0, none⟩ = some (.int .i64 x221000_2) ∧ w'.cell? ⟨gb220, 1, none⟩ = some (.int .i64 x221001_2) ∧ w'.cell? ⟨gb220, 2, none⟩ = some (.int .i64 x221002_2) ∧ w'.cell? ⟨gb220, 3, none⟩ = some (.int .u8 x221003_2)) ∧ (w'.heap[gb212]? = some (.cells #[.int .i64 a0_0, .int .i64 a0_1] 36 (0, 0))) ∧ (w'.heap[gb220]? = some (.cells #[.int .i64 x221000_2, .int .i64 x221001_2, .int .i64 x221002_2, .int .u8 x221003_2] 25 (0, 0))) ∧ (w'.heap[gb231]? = some (.cells #[.int .i64 t226, .int .i64 t227, .int .i64 t228, .int .u8 t229] 25 (0, 0))) ∧ (w'.heap[s_]? = some (.cells #[.int .i64 0, .int .i64 0, .int .i64 0, .int .u8 0] 25 (0, 0))) ∧ (w.heap.size ≤ s_) ∧ (w.heap.size ≤ s_) ∧ (gb212 ≠ s_) ∧ (s_ ≠ gb212) ∧ (gb220 ≠ s_) ∧ (s_ ≠ gb220) ∧ (gb231 ≠ s_) ∧ (s_ ≠ gb231) ∧ (Below w.heap.size w w')) ?_ ?_
                            rotate_left
                            · intro hCont
                              refine two_ (i := 4) (j := 8) (Ni := some 67) (Nj := some 14) #[true, true, true, true, true, false, false, false, false, false, false] #[true, true, true, true, false, false, false, false, true, false, false] rfl rfl rfl rfl (two_of HT_.out (by kernel_rfl)) (by decide) (by decide) (fun K hK => ?_) (fun K hK => ?_)
                              · skip
                                refine goes_ Try.func12 (by kernel_rfl) rfl #[.agg #[.int .i64 x221000_2, .int .i64 x221001_2, .int .i64 x221002_2, .int .u8 x221003_2], .int .u8 (bt a1 x46_2)] (by rfl) rfl rfl (by (try simp only [List.map_toArray, List.map_cons, List.map_nil]); first | done | rfl | (simp only [List.length_drop, List.length_take]; rfl)) ?_
                                with_reducible refine (number_State_Push.calls k2 x221000_2 x221001_2 x221002_2 x221003_2 (bt a1 x46_2) t232 t233 t234 t235 t236 _ A31.out).mono ?_
                                rintro e w51 ⟨rfl, hb⟩
                                refine ⟨_, rfl, ?_⟩
                                have n0_ := Aside0.mk (blk_below (g := gb212) (o := .cells #[.int .i64 a0_0, .int .i64 a0_1] 36 (0, 0)) (by (with_reducible repeat (first | refine blk_drewN ?_ _ | refine blk_drew ?_ | refine blk_alloc ?_ _)); exact BK212.out) hb)
                                have n1_ := Aside0.mk (blk_below (g := gb220) (o := .cells #[.int .i64 x221000_2, .int .i64 x221001_2, .int .i64 x221002_2, .int .u8 x221003_2] 25 (0, 0)) (by (with_reducible repeat (first | refine blk_drewN ?_ _ | refine blk_drew ?_ | refine blk_alloc ?_ _)); exact BK220.out) hb)
                                have n2_ := Aside0.mk (blk_below (g := gb231) (o := .cells #[.int .i64 t226, .int .i64 t227, .int .i64 t228, .int .u8 t229] 25 (0, 0)) (by (with_reducible repeat (first | refine blk_drewN ?_ _ | refine blk_drew ?_ | refine blk_alloc ?_ _)); exact BK231.out) hb)
                                have n3_ := Aside0.mk (below_step (by repeat (first | (with_reducible first | exact HB.out | apply below_alloc | apply pw_below_drewN | apply below_drew1 | refine below_set ?_ GE212.out | refine below_set ?_ GE220.out | refine below_set ?_ GE231.out) | exact HB.out)) hb)
                                clear BK212
                                clear BK220
                                clear BK231
                                clear HB
                                have BK212 := n0_
                                have BK220 := n1_
                                have BK231 := n2_
                                have HB := n3_
                                clear n0_ n1_ n2_ n3_
                                (try clear hb)
                                (try clear hb2)
                                (try clear hk)
                                (try clear hi)
                                refine hK.out _ _ ⟨(blk_cell BK220.out 0).trans rfl, (blk_cell BK220.out 1).trans rfl, (blk_cell BK220.out 2).trans rfl, (blk_cell BK220.out 3).trans rfl⟩ (fun hHeld => ?_)
                                clear hK K
                                refine norm_ (a' := ?_) ?_ ?_
                                rotate_left
                                · show Act.put _ (some 67) _ = _
                                  simp only [Act.put, List.setIfInBounds_toArray, List.set_cons_zero, List.set_cons_succ, i64_w, i32_w]
                                  rfl
                                refine pure_ (i := 5) (N := some 62) (v := ?_) (a' := ?_) #[true, true, true, true, true, true, false, false, false, false, false] rfl rfl (any_of HT_.out (by kernel_rfl)) (fun _ _ _ h => h) (Or.inl ⟨by rfl, ?_⟩) ?_ ?_
                                rotate_left
                                · intro w'
                                  go_simp
                                  with_reducible rfl
                                rotate_left
                                · simp only [Act.put, List.setIfInBounds_toArray, List.set_cons_zero, List.set_cons_succ, i64_w, i32_w]
                                  rfl
                                refine pure_ (i := 6) (N := some 68) (v := ?_) (a' := ?_) #[true, true, true, true, true, true, true, false, false, false, false] rfl rfl (any_of HT_.out (by kernel_rfl)) (fun _ _ _ h => h) (Or.inl ⟨by rfl, ?_⟩) ?_ ?_
                                rotate_left
                                · intro w'
                                  go_simp
                                  with_reducible rfl
                                rotate_left
                                · simp only [Act.put, List.setIfInBounds_toArray, List.set_cons_zero, List.set_cons_succ, i64_w, i32_w]
                                  rfl
                                refine pure_ (i := 7) (N := some 69) (v := ?_) (a' := ?_) #[true, true, true, true, true, true, true, true, false, false, false] rfl rfl (any_of HT_.out (by kernel_rfl)) (fun _ _ _ h => h) (Or.inl ⟨by rfl, ?_⟩) ?_ ?_
                                rotate_left
                                · intro w'
                                  go_simp
                                  with_reducible rfl
                                rotate_left
                                · simp only [Act.put, List.setIfInBounds_toArray, List.set_cons_zero, List.set_cons_succ, i64_w, i32_w]
                                  rfl
                                refine one_ (i := 8) (N := some 14) #[true, true, true, true, true, true, true, true, true, false, false] rfl rfl (one_of HT_.out (by kernel_rfl)) (by decide) (fun K hK => ?_)
                                refine box_step ?hg (N := 14) ?hd (cs := #[.int .i64 0, .int .i64 0, .int .i64 0, .int .u8 0]) (t := 25) ?hr ?_; (case hd => rfl); (case hg => rfl); (case hr => first | (go_simp; done) | (go_simp; rfl))
                                intro gb237 hg w52 hbox hb
                                have n0_ := Aside0.mk (blk_below (g := gb212) (o := .cells #[.int .i64 a0_0, .int .i64 a0_1] 36 (0, 0)) (by (with_reducible repeat (first | refine blk_drewN ?_ _ | refine blk_drew ?_ | refine blk_alloc ?_ _)); exact BK212.out) hb)
                                have n1_ := Aside0.mk (blk_below (g := gb220) (o := .cells #[.int .i64 x221000_2, .int .i64 x221001_2, .int .i64 x221002_2, .int .u8 x221003_2] 25 (0, 0)) (by (with_reducible repeat (first | refine blk_drewN ?_ _ | refine blk_drew ?_ | refine blk_alloc ?_ _)); exact BK220.out) hb)
                                have n2_ := Aside0.mk (blk_below (g := gb231) (o := .cells #[.int .i64 t226, .int .i64 t227, .int .i64 t228, .int .u8 t229] 25 (0, 0)) (by (with_reducible repeat (first | refine blk_drewN ?_ _ | refine blk_drew ?_ | refine blk_alloc ?_ _)); exact BK231.out) hb)
                                have n3_ := Aside0.mk (below_step (by repeat (first | (with_reducible first | exact HB.out | apply below_alloc | apply pw_below_drewN | apply below_drew1 | refine below_set ?_ GE212.out | refine below_set ?_ GE220.out | refine below_set ?_ GE231.out) | exact HB.out)) hb)
                                have n4_ := Aside0.mk (hbox)
                                have n5_ := Aside0.mk ((by rw [hg]; exact (below_size (by repeat (first | (with_reducible first | exact HB.out | apply below_alloc | apply pw_below_drewN | apply below_drew1 | refine below_set ?_ GE212.out | refine below_set ?_ GE220.out | refine below_set ?_ GE231.out) | exact HB.out))) : w.heap.size ≤ gb237))
                                have n6_ := Aside0.mk ((by rw [hg]; exact (below_size (by repeat (first | (with_reducible first | exact HB.out | apply below_alloc | apply pw_below_drewN | apply below_drew1 | refine below_set ?_ GE212.out | refine below_set ?_ GE220.out | refine below_set ?_ GE231.out) | exact HB.out))) : w.heap.size ≤ gb237))
                                have n7_ := Aside0.mk ((by rw [hg]; exact Nat.ne_of_lt (blk_lt (g := gb212) (o := .cells #[.int .i64 a0_0, .int .i64 a0_1] 36 (0, 0)) (by (with_reducible repeat (first | refine blk_drewN ?_ _ | refine blk_drew ?_ | refine blk_alloc ?_ _)); exact BK212.out)) : gb212 ≠ gb237))
                                have n8_ := Aside0.mk ((by rw [hg]; exact Nat.ne_of_gt (blk_lt (g := gb212) (o := .cells #[.int .i64 a0_0, .int .i64 a0_1] 36 (0, 0)) (by (with_reducible repeat (first | refine blk_drewN ?_ _ | refine blk_drew ?_ | refine blk_alloc ?_ _)); exact BK212.out)) : gb237 ≠ gb212))
                                have n9_ := Aside0.mk ((by rw [hg]; exact Nat.ne_of_lt (blk_lt (g := gb220) (o := .cells #[.int .i64 x221000_2, .int .i64 x221001_2, .int .i64 x221002_2, .int .u8 x221003_2] 25 (0, 0)) (by (with_reducible repeat (first | refine blk_drewN ?_ _ | refine blk_drew ?_ | refine blk_alloc ?_ _)); exact BK220.out)) : gb220 ≠ gb237))
                                have n10_ := Aside0.mk ((by rw [hg]; exact Nat.ne_of_gt (blk_lt (g := gb220) (o := .cells #[.int .i64 x221000_2, .int .i64 x221001_2, .int .i64 x221002_2, .int .u8 x221003_2] 25 (0, 0)) (by (with_reducible repeat (first | refine blk_drewN ?_ _ | refine blk_drew ?_ | refine blk_alloc ?_ _)); exact BK220.out)) : gb237 ≠ gb220))
                                have n11_ := Aside0.mk ((by rw [hg]; exact Nat.ne_of_lt (blk_lt (g := gb231) (o := .cells #[.int .i64 t226, .int .i64 t227, .int .i64 t228, .int .u8 t229] 25 (0, 0)) (by (with_reducible repeat (first | refine blk_drewN ?_ _ | refine blk_drew ?_ | refine blk_alloc ?_ _)); exact BK231.out)) : gb231 ≠ gb237))
                                have n12_ := Aside0.mk ((by rw [hg]; exact Nat.ne_of_gt (blk_lt (g := gb231) (o := .cells #[.int .i64 t226, .int .i64 t227, .int .i64 t228, .int .u8 t229] 25 (0, 0)) (by (with_reducible repeat (first | refine blk_drewN ?_ _ | refine blk_drew ?_ | refine blk_alloc ?_ _)); exact BK231.out)) : gb237 ≠ gb231))
                                clear BK212
                                clear BK220
                                clear BK231
                                clear HB
                                have BK212 := n0_
                                have BK220 := n1_
                                have BK231 := n2_
                                have HB := n3_
                                have BK237 := n4_
                                have GW237 := n5_
                                have GE237 := n6_
                                have NB212_237 := n7_
                                have NB237_212 := n8_
                                have NB220_237 := n9_
                                have NB237_220 := n10_
                                have NB231_237 := n11_
                                have NB237_231 := n12_
                                clear n0_ n1_ n2_ n3_ n4_ n5_ n6_ n7_ n8_ n9_ n10_ n11_ n12_
                                clear hb hbox hg
                                refine hK.out _ _ ⟨(blk_cell BK220.out 0).trans rfl, (blk_cell BK220.out 1).trans rfl, (blk_cell BK220.out 2).trans rfl, (blk_cell BK220.out 3).trans rfl⟩ (fun hHeld => ?_)
                                clear hK K
                                refine norm_ (a' := ?_) ?_ ?_
                                rotate_left
                                · show Act.put _ (some 14) _ = _
                                  simp only [Act.put, List.setIfInBounds_toArray, List.set_cons_zero, List.set_cons_succ, i64_w, i32_w]
                                  rfl
                                exact norm_ (by simp only [putAll, Act.put, List.setIfInBounds_toArray, List.set_cons_zero, List.set_cons_succ]) (hCont (gb237) _ ⟨hHeld, (by (with_reducible repeat (first | refine blk_drewN ?_ _ | refine blk_drew ?_ | refine blk_alloc ?_ _)); exact BK212.out), (by (with_reducible repeat (first | refine blk_drewN ?_ _ | refine blk_drew ?_ | refine blk_alloc ?_ _)); exact BK220.out), (by (with_reducible repeat (first | refine blk_drewN ?_ _ | refine blk_drew ?_ | refine blk_alloc ?_ _)); exact BK231.out), (by (with_reducible repeat (first | refine blk_drewN ?_ _ | refine blk_drew ?_ | refine blk_alloc ?_ _)); exact BK237.out), GW237.out, GE237.out, NB212_237.out, NB237_212.out, NB220_237.out, NB237_220.out, NB231_237.out, NB237_231.out, (by repeat (first | (with_reducible first | exact HB.out | apply below_alloc | apply pw_below_drewN | apply below_drew1 | refine below_set ?_ GE212.out | refine below_set ?_ GE220.out | refine below_set ?_ GE231.out | refine below_set ?_ GE237.out) | exact HB.out))⟩)
                              · skip
                                refine box_step ?hg (N := 14) ?hd (cs := #[.int .i64 0, .int .i64 0, .int .i64 0, .int .u8 0]) (t := 25) ?hr ?_; (case hd => rfl); (case hg => rfl); (case hr => first | (go_simp; done) | (go_simp; rfl))
                                intro gb237 hg w51 hbox hb
                                have n0_ := Aside0.mk (blk_below (g := gb212) (o := .cells #[.int .i64 a0_0, .int .i64 a0_1] 36 (0, 0)) (by (with_reducible repeat (first | refine blk_drewN ?_ _ | refine blk_drew ?_ | refine blk_alloc ?_ _)); exact BK212.out) hb)
                                have n1_ := Aside0.mk (blk_below (g := gb220) (o := .cells #[.int .i64 x221000_2, .int .i64 x221001_2, .int .i64 x221002_2, .int .u8 x221003_2] 25 (0, 0)) (by (with_reducible repeat (first | refine blk_drewN ?_ _ | refine blk_drew ?_ | refine blk_alloc ?_ _)); exact BK220.out) hb)
                                have n2_ := Aside0.mk (blk_below (g := gb231) (o := .cells #[.int .i64 t226, .int .i64 t227, .int .i64 t228, .int .u8 t229] 25 (0, 0)) (by (with_reducible repeat (first | refine blk_drewN ?_ _ | refine blk_drew ?_ | refine blk_alloc ?_ _)); exact BK231.out) hb)
                                have n3_ := Aside0.mk (below_step (by repeat (first | (with_reducible first | exact HB.out | apply below_alloc | apply pw_below_drewN | apply below_drew1 | refine below_set ?_ GE212.out | refine below_set ?_ GE220.out | refine below_set ?_ GE231.out) | exact HB.out)) hb)
                                have n4_ := Aside0.mk (hbox)
                                have n5_ := Aside0.mk ((by rw [hg]; exact (below_size (by repeat (first | (with_reducible first | exact HB.out | apply below_alloc | apply pw_below_drewN | apply below_drew1 | refine below_set ?_ GE212.out | refine below_set ?_ GE220.out | refine below_set ?_ GE231.out) | exact HB.out))) : w.heap.size ≤ gb237))
                                have n6_ := Aside0.mk ((by rw [hg]; exact (below_size (by repeat (first | (with_reducible first | exact HB.out | apply below_alloc | apply pw_below_drewN | apply below_drew1 | refine below_set ?_ GE212.out | refine below_set ?_ GE220.out | refine below_set ?_ GE231.out) | exact HB.out))) : w.heap.size ≤ gb237))
                                have n7_ := Aside0.mk ((by rw [hg]; exact Nat.ne_of_lt (blk_lt (g := gb212) (o := .cells #[.int .i64 a0_0, .int .i64 a0_1] 36 (0, 0)) (by (with_reducible repeat (first | refine blk_drewN ?_ _ | refine blk_drew ?_ | refine blk_alloc ?_ _)); exact BK212.out)) : gb212 ≠ gb237))
                                have n8_ := Aside0.mk ((by rw [hg]; exact Nat.ne_of_gt (blk_lt (g := gb212) (o := .cells #[.int .i64 a0_0, .int .i64 a0_1] 36 (0, 0)) (by (with_reducible repeat (first | refine blk_drewN ?_ _ | refine blk_drew ?_ | refine blk_alloc ?_ _)); exact BK212.out)) : gb237 ≠ gb212))
                                have n9_ := Aside0.mk ((by rw [hg]; exact Nat.ne_of_lt (blk_lt (g := gb220) (o := .cells #[.int .i64 x221000_2, .int .i64 x221001_2, .int .i64 x221002_2, .int .u8 x221003_2] 25 (0, 0)) (by (with_reducible repeat (first | refine blk_drewN ?_ _ | refine blk_drew ?_ | refine blk_alloc ?_ _)); exact BK220.out)) : gb220 ≠ gb237))
                                have n10_ := Aside0.mk ((by rw [hg]; exact Nat.ne_of_gt (blk_lt (g := gb220) (o := .cells #[.int .i64 x221000_2, .int .i64 x221001_2, .int .i64 x221002_2, .int .u8 x221003_2] 25 (0, 0)) (by (with_reducible repeat (first | refine blk_drewN ?_ _ | refine blk_drew ?_ | refine blk_alloc ?_ _)); exact BK220.out)) : gb237 ≠ gb220))
                                have n11_ := Aside0.mk ((by rw [hg]; exact Nat.ne_of_lt (blk_lt (g := gb231) (o := .cells #[.int .i64 t226, .int .i64 t227, .int .i64 t228, .int .u8 t229] 25 (0, 0)) (by (with_reducible repeat (first | refine blk_drewN ?_ _ | refine blk_drew ?_ | refine blk_alloc ?_ _)); exact BK231.out)) : gb231 ≠ gb237))
                                have n12_ := Aside0.mk ((by rw [hg]; exact Nat.ne_of_gt (blk_lt (g := gb231) (o := .cells #[.int .i64 t226, .int .i64 t227, .int .i64 t228, .int .u8 t229] 25 (0, 0)) (by (with_reducible repeat (first | refine blk_drewN ?_ _ | refine blk_drew ?_ | refine blk_alloc ?_ _)); exact BK231.out)) : gb237 ≠ gb231))
                                clear BK212
                                clear BK220
                                clear BK231
                                clear HB
                                have BK212 := n0_
                                have BK220 := n1_
                                have BK231 := n2_
                                have HB := n3_
                                have BK237 := n4_
                                have GW237 := n5_
                                have GE237 := n6_
                                have NB212_237 := n7_
                                have NB237_212 := n8_
                                have NB220_237 := n9_
                                have NB237_220 := n10_
                                have NB231_237 := n11_
                                have NB237_231 := n12_
                                clear n0_ n1_ n2_ n3_ n4_ n5_ n6_ n7_ n8_ n9_ n10_ n11_ n12_
                                clear hb hbox hg
                                refine hK.out _ _ ⟨(blk_cell BK220.out 0).trans rfl, (blk_cell BK220.out 1).trans rfl, (blk_cell BK220.out 2).trans rfl, (blk_cell BK220.out 3).trans rfl⟩ (fun hHeld => ?_)
                                clear hK K
                                refine norm_ (a' := ?_) ?_ ?_
                                rotate_left
                                · show Act.put _ (some 14) _ = _
                                  simp only [Act.put, List.setIfInBounds_toArray, List.set_cons_zero, List.set_cons_succ, i64_w, i32_w]
                                  rfl
                                refine one_ (i := 4) (N := some 67) #[true, true, true, true, true, false, false, false, true, false, false] rfl rfl (one_of HT_.out (by kernel_rfl)) (by decide) (fun K hK => ?_)
                                refine goes_ Try.func12 (by kernel_rfl) rfl #[.agg #[.int .i64 x221000_2, .int .i64 x221001_2, .int .i64 x221002_2, .int .u8 x221003_2], .int .u8 (bt a1 x46_2)] (by rfl) rfl rfl (by (try simp only [List.map_toArray, List.map_cons, List.map_nil]); first | done | rfl | (simp only [List.length_drop, List.length_take]; rfl)) ?_
                                with_reducible refine (number_State_Push.calls k2 x221000_2 x221001_2 x221002_2 x221003_2 (bt a1 x46_2) t232 t233 t234 t235 t236 _ A31.out).mono ?_
                                rintro e w52 ⟨rfl, hb⟩
                                refine ⟨_, rfl, ?_⟩
                                have n0_ := Aside0.mk (blk_below (g := gb212) (o := .cells #[.int .i64 a0_0, .int .i64 a0_1] 36 (0, 0)) (by (with_reducible repeat (first | refine blk_drewN ?_ _ | refine blk_drew ?_ | refine blk_alloc ?_ _)); exact BK212.out) hb)
                                have n1_ := Aside0.mk (blk_below (g := gb220) (o := .cells #[.int .i64 x221000_2, .int .i64 x221001_2, .int .i64 x221002_2, .int .u8 x221003_2] 25 (0, 0)) (by (with_reducible repeat (first | refine blk_drewN ?_ _ | refine blk_drew ?_ | refine blk_alloc ?_ _)); exact BK220.out) hb)
                                have n2_ := Aside0.mk (blk_below (g := gb231) (o := .cells #[.int .i64 t226, .int .i64 t227, .int .i64 t228, .int .u8 t229] 25 (0, 0)) (by (with_reducible repeat (first | refine blk_drewN ?_ _ | refine blk_drew ?_ | refine blk_alloc ?_ _)); exact BK231.out) hb)
                                have n3_ := Aside0.mk (blk_below (g := gb237) (o := .cells #[.int .i64 0, .int .i64 0, .int .i64 0, .int .u8 0] 25 (0, 0)) (by (with_reducible repeat (first | refine blk_drewN ?_ _ | refine blk_drew ?_ | refine blk_alloc ?_ _)); exact BK237.out) hb)
                                have n4_ := Aside0.mk (below_step (by repeat (first | (with_reducible first | exact HB.out | apply below_alloc | apply pw_below_drewN | apply below_drew1 | refine below_set ?_ GE212.out | refine below_set ?_ GE220.out | refine below_set ?_ GE231.out | refine below_set ?_ GE237.out) | exact HB.out)) hb)
                                clear BK212
                                clear BK220
                                clear BK231
                                clear BK237
                                clear HB
                                have BK212 := n0_
                                have BK220 := n1_
                                have BK231 := n2_
                                have BK237 := n3_
                                have HB := n4_
                                clear n0_ n1_ n2_ n3_ n4_
                                (try clear hb)
                                (try clear hb2)
                                (try clear hk)
                                (try clear hi)
                                refine hK.out _ _ ⟨(blk_cell BK220.out 0).trans rfl, (blk_cell BK220.out 1).trans rfl, (blk_cell BK220.out 2).trans rfl, (blk_cell BK220.out 3).trans rfl⟩ (fun hHeld => ?_)
                                clear hK K
                                refine norm_ (a' := ?_) ?_ ?_
                                rotate_left
                                · show Act.put _ (some 67) _ = _
                                  simp only [Act.put, List.setIfInBounds_toArray, List.set_cons_zero, List.set_cons_succ, i64_w, i32_w]
                                  rfl
                                refine pure_ (i := 5) (N := some 62) (v := ?_) (a' := ?_) #[true, true, true, true, true, true, false, false, true, false, false] rfl rfl (any_of HT_.out (by kernel_rfl)) (fun _ _ _ h => h) (Or.inl ⟨by rfl, ?_⟩) ?_ ?_
                                rotate_left
                                · intro w'
                                  go_simp
                                  with_reducible rfl
                                rotate_left
                                · simp only [Act.put, List.setIfInBounds_toArray, List.set_cons_zero, List.set_cons_succ, i64_w, i32_w]
                                  rfl
                                refine pure_ (i := 6) (N := some 68) (v := ?_) (a' := ?_) #[true, true, true, true, true, true, true, false, true, false, false] rfl rfl (any_of HT_.out (by kernel_rfl)) (fun _ _ _ h => h) (Or.inl ⟨by rfl, ?_⟩) ?_ ?_
                                rotate_left
                                · intro w'
                                  go_simp
                                  with_reducible rfl
                                rotate_left
                                · simp only [Act.put, List.setIfInBounds_toArray, List.set_cons_zero, List.set_cons_succ, i64_w, i32_w]
                                  rfl
                                refine pure_ (i := 7) (N := some 69) (v := ?_) (a' := ?_) #[true, true, true, true, true, true, true, true, true, false, false] rfl rfl (any_of HT_.out (by kernel_rfl)) (fun _ _ _ h => h) (Or.inl ⟨by rfl, ?_⟩) ?_ ?_
                                rotate_left
                                · intro w'
                                  go_simp
                                  with_reducible rfl
                                rotate_left
                                · simp only [Act.put, List.setIfInBounds_toArray, List.set_cons_zero, List.set_cons_succ, i64_w, i32_w]
                                  rfl
                                exact norm_ (by simp only [putAll, Act.put, List.setIfInBounds_toArray, List.set_cons_zero, List.set_cons_succ]) (hCont (gb237) _ ⟨hHeld, (by (with_reducible repeat (first | refine blk_drewN ?_ _ | refine blk_drew ?_ | refine blk_alloc ?_ _)); exact BK212.out), (by (with_reducible repeat (first | refine blk_drewN ?_ _ | refine blk_drew ?_ | refine blk_alloc ?_ _)); exact BK220.out), (by (with_reducible repeat (first | refine blk_drewN ?_ _ | refine blk_drew ?_ | refine blk_alloc ?_ _)); exact BK231.out), (by (with_reducible repeat (first | refine blk_drewN ?_ _ | refine blk_drew ?_ | refine blk_alloc ?_ _)); exact BK237.out), GW237.out, GE237.out, NB212_237.out, NB237_212.out, NB220_237.out, NB237_220.out, NB231_237.out, NB237_231.out, (by repeat (first | (with_reducible first | exact HB.out | apply below_alloc | apply pw_below_drewN | apply below_drew1 | refine below_set ?_ GE212.out | refine below_set ?_ GE220.out | refine below_set ?_ GE231.out | refine below_set ?_ GE237.out) | exact HB.out))⟩)
                            rintro gb237 w53 ⟨hS_, h0_, h1_, h2_, h3_, h4_, h5_, h6_, h7_, h8_, h9_, h10_, h11_, h12_⟩
                            have n0_ : Aside0 (w53.heap[gb212]? = some (.cells #[.int .i64 a0_0, .int .i64 a0_1] 36 (0, 0))) := ⟨h0_⟩
                            have n1_ : Aside0 (w53.heap[gb220]? = some (.cells #[.int .i64 x221000_2, .int .i64 x221001_2, .int .i64 x221002_2, .int .u8 x221003_2] 25 (0, 0))) := ⟨h1_⟩
                            have n2_ : Aside0 (w53.heap[gb231]? = some (.cells #[.int .i64 t226, .int .i64 t227, .int .i64 t228, .int .u8 t229] 25 (0, 0))) := ⟨h2_⟩
                            have n3_ : Aside0 (w53.heap[gb237]? = some (.cells #[.int .i64 0, .int .i64 0, .int .i64 0, .int .u8 0] 25 (0, 0))) := ⟨h3_⟩
                            have n4_ : Aside0 (w.heap.size ≤ gb237) := ⟨h4_⟩
                            have n5_ : Aside0 (w.heap.size ≤ gb237) := ⟨h5_⟩
                            have n6_ : Aside0 (gb212 ≠ gb237) := ⟨h6_⟩
                            have n7_ : Aside0 (gb237 ≠ gb212) := ⟨h7_⟩
                            have n8_ : Aside0 (gb220 ≠ gb237) := ⟨h8_⟩
                            have n9_ : Aside0 (gb237 ≠ gb220) := ⟨h9_⟩
                            have n10_ : Aside0 (gb231 ≠ gb237) := ⟨h10_⟩
                            have n11_ : Aside0 (gb237 ≠ gb231) := ⟨h11_⟩
                            have n12_ : Aside0 (Below w.heap.size w w53) := ⟨h12_⟩
                            clear BK212
                            clear BK220
                            clear BK231
                            clear HB
                            clear h0_ h1_ h2_ h3_ h4_ h5_ h6_ h7_ h8_ h9_ h10_ h11_ h12_
                            have BK212 := n0_
                            have BK220 := n1_
                            have BK231 := n2_
                            have BK237 := n3_
                            have GW237 := n4_
                            have GE237 := n5_
                            have NB212_237 := n6_
                            have NB237_212 := n7_
                            have NB220_237 := n8_
                            have NB237_220 := n9_
                            have NB231_237 := n10_
                            have NB237_231 := n11_
                            have HB := n12_
                            clear n0_ n1_ n2_ n3_ n4_ n5_ n6_ n7_ n8_ n9_ n10_ n11_ n12_
                            have hHeld : w53.cell? ⟨gb220, 0, none⟩ = some (.int .i64 x221000_2) ∧ w53.cell? ⟨gb220, 1, none⟩ = some (.int .i64 x221001_2) ∧ w53.cell? ⟨gb220, 2, none⟩ = some (.int .i64 x221002_2) ∧ w53.cell? ⟨gb220, 3, none⟩ = some (.int .u8 x221003_2) := hS_
                            refine norm_ (a' := ?_) ?_ ?_
                            rotate_left
                            · simp only [putAll, Act.put, List.setIfInBounds_toArray, List.set_cons_zero, List.set_cons_succ]
                              rfl
                            refine one_ (i := 9) (N := none) #[true, true, true, true, true, true, true, true, true, true, false] rfl rfl (one_of HT_.out (by kernel_rfl)) (by decide) (fun K hK => ?_)
                            have hs54 : w53.cell? ⟨gb237, 0, none⟩ = some (.int .i64 0) := (blk_cell BK237.out 0).trans rfl
                            have hfs54 := blk_frozen BK237.out 0
                            have hns54_0 := NB212_237.out
                            have hns54_1 := NB220_237.out
                            have hns54_2 := NB231_237.out
                            have hms54_0 := NB237_212.out
                            have hms54_1 := NB237_220.out
                            have hms54_2 := NB237_231.out
                            have hs55 : w53.cell? ⟨gb237, 1, none⟩ = some (.int .i64 0) := (blk_cell BK237.out 1).trans rfl
                            have hfs55 := blk_frozen BK237.out 1
                            have hns55_0 := NB212_237.out
                            have hns55_1 := NB220_237.out
                            have hns55_2 := NB231_237.out
                            have hms55_0 := NB237_212.out
                            have hms55_1 := NB237_220.out
                            have hms55_2 := NB237_231.out
                            have hs56 : w53.cell? ⟨gb237, 2, none⟩ = some (.int .i64 0) := (blk_cell BK237.out 2).trans rfl
                            have hfs56 := blk_frozen BK237.out 2
                            have hns56_0 := NB212_237.out
                            have hns56_1 := NB220_237.out
                            have hns56_2 := NB231_237.out
                            have hms56_0 := NB237_212.out
                            have hms56_1 := NB237_220.out
                            have hms56_2 := NB237_231.out
                            have hs57 : w53.cell? ⟨gb237, 3, none⟩ = some (.int .u8 0) := (blk_cell BK237.out 3).trans rfl
                            have hfs57 := blk_frozen BK237.out 3
                            have hns57_0 := NB212_237.out
                            have hns57_1 := NB220_237.out
                            have hns57_2 := NB231_237.out
                            have hms57_0 := NB237_212.out
                            have hms57_1 := NB237_220.out
                            have hms57_2 := NB237_231.out
                            refine skip_ (w1 := ?_) (by rfl) rfl ?_ ?_
                            rotate_left
                            · go_simp
                              rfl
                            refine hK.out _ _ ⟨((cell_far (p := ⟨gb237, _, none⟩) NB220_237.out _).trans (((cell_far (p := ⟨gb237, _, none⟩) NB220_237.out _).trans (((cell_far (p := ⟨gb237, _, none⟩) NB220_237.out _).trans (((cell_far (p := ⟨gb237, _, none⟩) NB220_237.out _).trans (hHeld.1)))))))), ((cell_far (p := ⟨gb237, _, none⟩) NB220_237.out _).trans (((cell_far (p := ⟨gb237, _, none⟩) NB220_237.out _).trans (((cell_far (p := ⟨gb237, _, none⟩) NB220_237.out _).trans (((cell_far (p := ⟨gb237, _, none⟩) NB220_237.out _).trans (hHeld.2.1)))))))), ((cell_far (p := ⟨gb237, _, none⟩) NB220_237.out _).trans (((cell_far (p := ⟨gb237, _, none⟩) NB220_237.out _).trans (((cell_far (p := ⟨gb237, _, none⟩) NB220_237.out _).trans (((cell_far (p := ⟨gb237, _, none⟩) NB220_237.out _).trans (hHeld.2.2.1)))))))), ((cell_far (p := ⟨gb237, _, none⟩) NB220_237.out _).trans (((cell_far (p := ⟨gb237, _, none⟩) NB220_237.out _).trans (((cell_far (p := ⟨gb237, _, none⟩) NB220_237.out _).trans (((cell_far (p := ⟨gb237, _, none⟩) NB220_237.out _).trans (hHeld.2.2.2))))))))⟩ (fun hHeld => ?_)
                            clear hK K
                            refine pure_ (i := 10) (N := some 15) (v := ?_) (a' := ?_) #[true, true, true, true, true, true, true, true, true, true, true] rfl rfl (any_of HT_.out (by kernel_rfl)) (fun _ _ _ h => h) (Or.inl ⟨by rfl, ?_⟩) ?_ ?_
                            rotate_left
                            · intro w'
                              go_simp
                              with_reducible rfl
                            rotate_left
                            · simp only [Act.put, List.setIfInBounds_toArray, List.set_cons_zero, List.set_cons_succ, i64_w, i32_w]
                              rfl
                            refine done_ (done_of HT_.out (by kernel_rfl)) ?_
                            try go_wp2_with (first | (go_at_call 10; (with_reducible refine (gantletref10_Wrong.calls k2 a0_0 a0_1 (a1.extract 0 ((ji33) : Int).toNat) t238 _ A36.out).mono ?_); rintro e w' ⟨rfl, ⟨nd, rfl⟩⟩; have hnb58 := NB231_212.out; have hnc58 := NB212_231.out; have hnb59 := NB231_220.out; have hnc59 := NB220_231.out; have hnb60 := NB231_237.out; have hnc60 := NB237_231.out; have hcz61_0 : w53.cell? ⟨gb231, 0, none⟩ = some (.int .i64 t226) := (blk_cell BK231.out 0).trans rfl; have hcz61_1 : w53.cell? ⟨gb231, 1, none⟩ = some (.int .i64 t227) := (blk_cell BK231.out 1).trans rfl; have hcz61_2 : w53.cell? ⟨gb231, 2, none⟩ = some (.int .i64 t228) := (blk_cell BK231.out 2).trans rfl; have hcz61_3 : w53.cell? ⟨gb231, 3, none⟩ = some (.int .u8 t229) := (blk_cell BK231.out 3).trans rfl; have hfz61_0 := blk_frozen BK231.out 0; have hfz61_1 := blk_frozen BK231.out 1; have hfz61_2 := blk_frozen BK231.out 2; have hfz61_3 := blk_frozen BK231.out 3; have hnb62 := NB220_237.out; have hnc62 := NB237_220.out; have hcz63_0 : w53.cell? ⟨gb220, 0, none⟩ = some (.int .i64 x221000_2) := (blk_cell BK220.out 0).trans rfl; have hcz63_1 : w53.cell? ⟨gb220, 1, none⟩ = some (.int .i64 x221001_2) := (blk_cell BK220.out 1).trans rfl; have hcz63_2 : w53.cell? ⟨gb220, 2, none⟩ = some (.int .i64 x221002_2) := (blk_cell BK220.out 2).trans rfl; have hcz63_3 : w53.cell? ⟨gb220, 3, none⟩ = some (.int .u8 x221003_2) := (blk_cell BK220.out 3).trans rfl; have hfz63_0 := blk_frozen BK220.out 0; have hfz63_1 := blk_frozen BK220.out 1; have hfz63_2 := blk_frozen BK220.out 2; have hfz63_3 := blk_frozen BK220.out 3))
                            go_roundg k2
                            case measure => have := HJ3.out; have := HK2.out; omega
                            case rel => exact ⟨(t230), (ji33), (t226), (t227), (t228), (t229), (by first | rfl | (simp; done) | (simp [*]; done)), (by first | rfl | (simp; done) | (simp only [← hji33] <;> (first | rfl | simp)) | (simp [*]; done)), H', ⟨by have := HJ3.out; have := HK2.out; omega⟩, ⟨by (with_reducible repeat (first | refine blk_drewN ?_ _ | refine blk_drew ?_ | refine blk_alloc ?_ _)); refine blk_far ?_ NB212_220.out _; (with_reducible repeat (first | refine blk_drewN ?_ _ | refine blk_drew ?_ | refine blk_alloc ?_ _)); refine blk_far ?_ NB212_220.out _; (with_reducible repeat (first | refine blk_drewN ?_ _ | refine blk_drew ?_ | refine blk_alloc ?_ _)); refine blk_far ?_ NB212_220.out _; (with_reducible repeat (first | refine blk_drewN ?_ _ | refine blk_drew ?_ | refine blk_alloc ?_ _)); refine blk_far ?_ NB212_220.out _; (with_reducible repeat (first | refine blk_drewN ?_ _ | refine blk_drew ?_ | refine blk_alloc ?_ _)); refine blk_far ?_ NB212_237.out _; (with_reducible repeat (first | refine blk_drewN ?_ _ | refine blk_drew ?_ | refine blk_alloc ?_ _)); refine blk_far ?_ NB212_237.out _; (with_reducible repeat (first | refine blk_drewN ?_ _ | refine blk_drew ?_ | refine blk_alloc ?_ _)); refine blk_far ?_ NB212_237.out _; (with_reducible repeat (first | refine blk_drewN ?_ _ | refine blk_drew ?_ | refine blk_alloc ?_ _)); refine blk_far ?_ NB212_237.out _; (with_reducible repeat (first | refine blk_drewN ?_ _ | refine blk_drew ?_ | refine blk_alloc ?_ _)); exact BK212.out⟩, ⟨by (with_reducible repeat (first | refine blk_drewN ?_ _ | refine blk_drew ?_ | refine blk_alloc ?_ _)); refine blk_put (cs := #[.int .i64 t226, .int .i64 t227, .int .i64 t228, .int .u8 x221003_2]) ?_ 3 _ rfl; (with_reducible repeat (first | refine blk_drewN ?_ _ | refine blk_drew ?_ | refine blk_alloc ?_ _)); refine blk_put (cs := #[.int .i64 t226, .int .i64 t227, .int .i64 x221002_2, .int .u8 x221003_2]) ?_ 2 _ rfl; (with_reducible repeat (first | refine blk_drewN ?_ _ | refine blk_drew ?_ | refine blk_alloc ?_ _)); refine blk_put (cs := #[.int .i64 t226, .int .i64 x221001_2, .int .i64 x221002_2, .int .u8 x221003_2]) ?_ 1 _ rfl; (with_reducible repeat (first | refine blk_drewN ?_ _ | refine blk_drew ?_ | refine blk_alloc ?_ _)); refine blk_put (cs := #[.int .i64 x221000_2, .int .i64 x221001_2, .int .i64 x221002_2, .int .u8 x221003_2]) ?_ 0 _ rfl; (with_reducible repeat (first | refine blk_drewN ?_ _ | refine blk_drew ?_ | refine blk_alloc ?_ _)); refine blk_far ?_ NB220_237.out _; (with_reducible repeat (first | refine blk_drewN ?_ _ | refine blk_drew ?_ | refine blk_alloc ?_ _)); refine blk_far ?_ NB220_237.out _; (with_reducible repeat (first | refine blk_drewN ?_ _ | refine blk_drew ?_ | refine blk_alloc ?_ _)); refine blk_far ?_ NB220_237.out _; (with_reducible repeat (first | refine blk_drewN ?_ _ | refine blk_drew ?_ | refine blk_alloc ?_ _)); refine blk_far ?_ NB220_237.out _; (with_reducible repeat (first | refine blk_drewN ?_ _ | refine blk_drew ?_ | refine blk_alloc ?_ _)); exact BK220.out⟩, ⟨by repeat (first | (with_reducible first | exact HB.out | apply below_alloc | apply pw_below_drewN | apply below_drew1 | refine below_set ?_ GE212.out | refine below_set ?_ GE220.out | refine below_set ?_ GE231.out | refine below_set ?_ GE237.out) | exact HB.out)⟩⟩
                        · rw [if_neg c35] at H
                          exact absurd H (by simp)
                      · rw [if_neg c34] at H
                        exact absurd H (by simp)
                  · rw [if_neg c27] at H
                    exact absurd H (by simp)
                · rw [if_neg c26] at H
                  exact absurd H (by simp)
              · replace c24 := Bool.eq_false_iff.mpr c24
                subst c24
                have H1 : (some true) = some r := by rw [if_neg (show ¬ (false = true) by decide)] at H; exact H
                clear H
                have H := H1
                clear H1
                obtain rfl := Option.some.inj H
                go_wp2
                go_ret
                exact ⟨by first | rfl | (simp [errW_none, errW_some] <;> rfl) | (simp [*, errW_none, errW_some] <;> rfl), by repeat (first | (with_reducible first | exact HB.out | apply below_alloc | apply pw_below_drewN | apply below_drew1 | refine below_set ?_ GE212.out | refine below_set ?_ GE220.out) | exact HB.out)⟩
            · rw [if_neg c23] at H
              have c23b0 : decide (x46_2 < (a1.size : Int)) = false := decide_eq_false c23
              clear c23
              obtain rfl := Option.some.inj H
              go_wp2
              go_ret
              exact ⟨by first | rfl | (simp [errW_none, errW_some] <;> rfl) | (simp [*, errW_none, errW_some] <;> rfl), by repeat (first | (with_reducible first | exact HB.out | apply below_alloc | apply pw_below_drewN | apply below_drew1 | refine below_set ?_ GE212.out | refine below_set ?_ GE220.out) | exact HB.out)⟩

end Go.Proofs.Ytghkfoaiieajhaa.PA
