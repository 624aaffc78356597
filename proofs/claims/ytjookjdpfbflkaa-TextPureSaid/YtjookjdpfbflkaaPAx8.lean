-- Written by a program of this session (print2, a turned print): not PRINTED BY print.sh
import Derived.Test.YtjookjdpfbflkaaPAx0
import Derived.Test.YtjookjdpfbflkaaPAx1
import Derived.Test.YtjookjdpfbflkaaPAx2
import Derived.Test.YtjookjdpfbflkaaPAx5
namespace Go.Proofs.Ytjookjdpfbflkaa.PA
open Go.RowKit Go.Proofs.YtjookjdpfbflkaaW.PrintWords Go.Proofs.YtjookjdpfbflkaaW.PrintLast Go.Proofs.YtjookjdpfbflkaaW.PrintMore
attribute [local go_sem] max2_int min2_int max_two min_two max_three min_three max_four min_four   -- for this text's walks alone
set_option linter.unusedVariables false
set_option linter.unusedSimpArgs false

/-! ### gantletlaw14_TextPure: function 7 -/
mutual
def gantletlaw14_TextPure.j0 : Nat → Int → ByteArray → Int → Bool → Option (Bool)
  | 0, _, _, _, _ => none
  | k + 1, x0, x1, x2, x21 => if x21 = true then ((gantletlaw14_awake.f k).bind fun t229 => (some t229)) else ((text_Start.f x0 (x1.size : Int)).bind fun bt230 => ((gantletref14_Wrong.f k x0 (x1.size : Int) x1).bind fun t237 => (gantletlaw14_TextPure.l0 k x1 x2 bt230.2.2.2.2.2 t237 (x1.size : Int) 0 bt230.1 bt230.2.1 bt230.2.2.1 bt230.2.2.2.1 bt230.2.2.2.2.1)))
def gantletlaw14_TextPure.l0 : Nat → ByteArray → Int → Bool → Int → Int → Int → Int → Int → Int → Int → Int → Option (Bool)
  | 0, _, _, _, _, _, _, _, _, _, _, _ => none
  | k + 1, x1, x2, x8, x9, x36, x37, x237000, x237001, x237002, x237003, x237004 => if x37 < x36 then (if x8 = true then ((text_State_Push.f k x237000 x237001 x237002 x237003 x237004 x2).bind fun bt238 => (if 0 ≤ x37 then (if x37 < (x1.size : Int) then ((text_State_Push.f k x237000 x237001 x237002 x237003 x237004 (bt x1 x37)).bind fun bt244 => ((text_State_Push.f k x237000 x237001 x237002 x237003 x237004 (bt x1 x37)).bind fun bt251 => (if (bt244.2.2.2.2.2 != bt251.2.2.2.2.2) = true then (none) else (if (bt244.2.2.2.2.2 != (x9 != (wrap64 (x37 + 1)))) = true then (none) else (gantletlaw14_TextPure.l0 k x1 x2 bt244.2.2.2.2.2 x9 x36 (wrap64 (x37 + 1)) bt244.1 bt244.2.1 bt244.2.2.1 bt244.2.2.2.1 bt244.2.2.2.2.1))))) else (none)) else (none))) else (if x9 ≥ 0 then (some (decide (x9 ≤ x37))) else (none))) else (some true)
end
def gantletlaw14_TextPure.f (k : Nat) (a0 : Int) (a1 : ByteArray) (a2 : Int) : Option (Bool) := (gantletlaw14_awake.f k).bind fun t228 => (if t228 = true then (gantletlaw14_TextPure.j0 k a0 a1 a2 (decide ((a1.size : Int) > 100))) else (gantletlaw14_TextPure.j0 k a0 a1 a2 true))
theorem gantletlaw14_TextPure.mono_l : ∀ k, (∀ y0 y1 y2 y3, LeO (gantletlaw14_TextPure.j0 k y0 y1 y2 y3) (gantletlaw14_TextPure.j0 (k + 1) y0 y1 y2 y3)) ∧ (∀ y0 y1 y2 y3 y4 y5 y6 y7 y8 y9 y10, LeO (gantletlaw14_TextPure.l0 k y0 y1 y2 y3 y4 y5 y6 y7 y8 y9 y10) (gantletlaw14_TextPure.l0 (k + 1) y0 y1 y2 y3 y4 y5 y6 y7 y8 y9 y10))
  | 0 => ⟨fun _ _ _ _ r h => by simp [gantletlaw14_TextPure.j0] at h, fun _ _ _ _ _ _ _ _ _ _ _ r h => by simp [gantletlaw14_TextPure.l0] at h⟩
  | k + 1 => by
    obtain ⟨ih0, ih1⟩ := gantletlaw14_TextPure.mono_l k
    refine ⟨?_, ?_⟩
    · intro y0 y1 y2 y3
      unfold gantletlaw14_TextPure.j0
      repeat' first
      | (with_reducible exact ih0 _ _ _ _)
      | (with_reducible exact ih1 _ _ _ _ _ _ _ _ _ _ _)
      | (with_reducible exact gantletlaw14_awake.mono _)
      | (with_reducible exact gantletref14_Wrong.mono _ _ _ _)
      | (with_reducible exact text_State_Push.mono _ _ _ _ _ _ _)
      | (with_reducible exact LeO.refl _)
      | (with_reducible exact LeO.none _)
      | (with_reducible refine LeO.ite ?_ ?_)
      | (with_reducible refine LeO.bind ?_ (fun _ => ?_))
      | exact ih0 _ _ _ _
      | exact ih1 _ _ _ _ _ _ _ _ _ _ _
      | exact gantletlaw14_awake.mono _
      | exact gantletref14_Wrong.mono _ _ _ _
      | exact text_State_Push.mono _ _ _ _ _ _ _
      | exact LeO.none _
      | refine LeO.ite ?_ ?_
      | refine LeO.bind ?_ (fun _ => ?_)
    · intro y0 y1 y2 y3 y4 y5 y6 y7 y8 y9 y10
      unfold gantletlaw14_TextPure.l0
      repeat' first
      | (with_reducible exact ih0 _ _ _ _)
      | (with_reducible exact ih1 _ _ _ _ _ _ _ _ _ _ _)
      | (with_reducible exact gantletlaw14_awake.mono _)
      | (with_reducible exact gantletref14_Wrong.mono _ _ _ _)
      | (with_reducible exact text_State_Push.mono _ _ _ _ _ _ _)
      | (with_reducible exact LeO.refl _)
      | (with_reducible exact LeO.none _)
      | (with_reducible refine LeO.ite ?_ ?_)
      | (with_reducible refine LeO.bind ?_ (fun _ => ?_))
      | exact ih0 _ _ _ _
      | exact ih1 _ _ _ _ _ _ _ _ _ _ _
      | exact gantletlaw14_awake.mono _
      | exact gantletref14_Wrong.mono _ _ _ _
      | exact text_State_Push.mono _ _ _ _ _ _ _
      | exact LeO.none _
      | refine LeO.ite ?_ ?_
      | refine LeO.bind ?_ (fun _ => ?_)
theorem gantletlaw14_TextPure.mono : ∀ a0 a1 a2 k, LeO (gantletlaw14_TextPure.f k a0 a1 a2) (gantletlaw14_TextPure.f (k + 1) a0 a1 a2) := by
  intro a0 a1 a2 k
  obtain ⟨ih0, ih1⟩ := gantletlaw14_TextPure.mono_l k
  unfold gantletlaw14_TextPure.f
  repeat' first
      | (with_reducible exact ih0 _ _ _ _)
      | (with_reducible exact ih1 _ _ _ _ _ _ _ _ _ _ _)
      | (with_reducible exact gantletlaw14_awake.mono _)
      | (with_reducible exact gantletref14_Wrong.mono _ _ _ _)
      | (with_reducible exact text_State_Push.mono _ _ _ _ _ _ _)
      | (with_reducible exact LeO.refl _)
      | (with_reducible exact LeO.none _)
      | (with_reducible refine LeO.ite ?_ ?_)
      | (with_reducible refine LeO.bind ?_ (fun _ => ?_))
      | exact ih0 _ _ _ _
      | exact ih1 _ _ _ _ _ _ _ _ _ _ _
      | exact gantletlaw14_awake.mono _
      | exact gantletref14_Wrong.mono _ _ _ _
      | exact text_State_Push.mono _ _ _ _ _ _ _
      | exact LeO.none _
      | refine LeO.ite ?_ ?_
      | refine LeO.bind ?_ (fun _ => ?_)
def gantletlaw14_TextPure.T11 : Bool × List (List Nat × List Nat) := (true, [([], []), ([], []), ([], []), ([1, 2], [1, 2]), ([0, 3], [0, 3]), ([4], [4]), ([5], [5]), ([5], [5]), ([], []), ([8, 6, 4, 0, 1, 2, 3, 4, 5, 6, 8], [6, 8]), ([7, 9, 0, 1, 2, 3, 4, 5, 6, 7, 8, 9], [7])])
def gantletlaw14_TextPure.B11 : List Nat := [0, 0, 0, 6, 15, 31, 63, 63, 0, 383, 1023]
theorem gantletlaw14_TextPure.tab11 : rtab .any (opsOf Try.f7 11) = gantletlaw14_TextPure.T11 := by kernel_rfl
theorem gantletlaw14_TextPure.bits11 : waitsOk gantletlaw14_TextPure.T11.2 gantletlaw14_TextPure.B11 = true := by kernel_rfl
def gantletlaw14_TextPure.T12 : Bool × List (List Nat × List Nat) := (true, [([], []), ([], []), ([], []), ([1, 2], [1, 2]), ([0, 3], [0, 3]), ([4], [4]), ([5], [5]), ([5], [5]), ([], []), ([8, 6, 4, 0, 1, 2, 3, 4, 5, 6, 8], [6, 8]), ([7, 9, 0, 1, 2, 3, 4, 5, 6, 7, 8, 9], [7])])
def gantletlaw14_TextPure.B12 : List Nat := [0, 0, 0, 6, 15, 31, 63, 63, 0, 383, 1023]
theorem gantletlaw14_TextPure.tab12 : rtab .any (opsOf Try.f7 12) = gantletlaw14_TextPure.T12 := by kernel_rfl
theorem gantletlaw14_TextPure.bits12 : waitsOk gantletlaw14_TextPure.T12.2 gantletlaw14_TextPure.B12 = true := by kernel_rfl
set_option maxHeartbeats 8000000 in
set_option maxRecDepth 100000 in
theorem gantletlaw14_TextPure.calls (k : Nat) (a0 : Int) (a1 : ByteArray) (a2 : Int) (r : Bool) (w : World) (h : gantletlaw14_TextPure.f k a0 a1 a2 = some r) :
    Calls Try.prog 7 #[.int .i64 a0, .string a1, .int .u8 a2] w fun e w' => e = .returned (.bool r) ∧ Below w.heap.size w w' := by
  have hu25 := Try.underlying25
  have HB := Aside0.mk (Below.refl w.heap.size w)
  have H : ((gantletlaw14_awake.f k).bind fun t228 => (if t228 = true then (gantletlaw14_TextPure.j0 k a0 a1 a2 (decide ((a1.size : Int) > 100))) else (gantletlaw14_TextPure.j0 k a0 a1 a2 true))) = some r := h
  clear h
  have HC4 := Aside0.mk H
  clear H
  go_enter Try.func7, Try.ntmps7
  go_upto_region 1 with (fail)
  go_cut [21] (fun v21 wc => ∃ (kq : Nat) (x21_3 : Bool), v21 = .bool x21_3 ∧ Aside0 (gantletlaw14_TextPure.j0 kq a0 a1 a2 x21_3 = some r) ∧ Aside0 (kq ≤ k) ∧ Aside0 (Below w.heap.size w wc))
  case first =>
    have H := HC4.out
    clear HC4
    replace H := Option.bind_eq_some_iff.mp H
    obtain ⟨t228, A50, H⟩ := H
    replace H : (if t228 = true then (gantletlaw14_TextPure.j0 k a0 a1 a2 (decide ((a1.size : Int) > 100))) else (gantletlaw14_TextPure.j0 k a0 a1 a2 true)) = some r := H
    have A5 := Aside0.mk A50
    clear A50
    by_cases c6 : t228 = true
    · subst c6
      have H1 : (gantletlaw14_TextPure.j0 k a0 a1 a2 (decide ((a1.size : Int) > 100))) = some r := by rw [if_pos rfl] at H; exact H
      clear H
      have H := H1
      clear H1
      have H' := Aside0.mk H
      clear H
      go_wp2_with (first | ((with_reducible refine gate_callee (f := 8) rfl ?_); refine goesL_ (some 15) rfl rfl Try.func8 (by kernel_rfl) rfl #[] rfl (by (try simp only [List.map_toArray, List.map_cons, List.map_nil]); first | done | rfl | (simp only [List.length_drop, List.length_take]; rfl)) ?_; (with_reducible refine (gantletlaw14_awake.calls k  true _ A5.out).mono ?_); rintro e w7 ⟨rfl, hb⟩; refine ⟨_, rfl, ?_⟩; have n0_ := Aside0.mk (below_step (by repeat (first | (with_reducible first | exact HB.out | apply below_alloc | apply pw_below_drewN | apply below_drew1) | exact HB.out)) hb); clear HB; have HB := n0_; clear n0_; (try clear hb); (try clear hb2); (try clear hk); (try clear hi)))
      go_meet
      case rel => exact ⟨_, (decide ((a1.size : Int) > 100)), (by first | rfl | (simp; done) | (simp [*]; done)), H', ⟨by first | omega | exact Nat.le_refl _⟩, ⟨by repeat (first | (with_reducible first | exact HB.out | apply below_alloc | apply pw_below_drewN | apply below_drew1) | exact HB.out)⟩⟩
    · replace c6 := Bool.eq_false_iff.mpr c6
      subst c6
      have H1 : (gantletlaw14_TextPure.j0 k a0 a1 a2 true) = some r := by rw [if_neg (show ¬ (false = true) by decide)] at H; exact H
      clear H
      have H := H1
      clear H1
      have H' := Aside0.mk H
      clear H
      go_wp2_with (first | ((with_reducible refine gate_callee (f := 8) rfl ?_); refine goesL_ (some 15) rfl rfl Try.func8 (by kernel_rfl) rfl #[] rfl (by (try simp only [List.map_toArray, List.map_cons, List.map_nil]); first | done | rfl | (simp only [List.length_drop, List.length_take]; rfl)) ?_; (with_reducible refine (gantletlaw14_awake.calls k  false _ A5.out).mono ?_); rintro e w8 ⟨rfl, hb⟩; refine ⟨_, rfl, ?_⟩; have n0_ := Aside0.mk (below_step (by repeat (first | (with_reducible first | exact HB.out | apply below_alloc | apply pw_below_drewN | apply below_drew1) | exact HB.out)) hb); clear HB; have HB := n0_; clear n0_; (try clear hb); (try clear hb2); (try clear hk); (try clear hi)))
      go_meet
      case rel => exact ⟨_, (true), (by first | rfl | (simp; done) | (simp [*]; done)), H', ⟨by first | omega | exact Nat.le_refl _⟩, ⟨by repeat (first | (with_reducible first | exact HB.out | apply below_alloc | apply pw_below_drewN | apply below_drew1) | exact HB.out)⟩⟩
  case rest =>
    clear HC4
    try clear p2
    try clear c6
    try clear c7
    try clear c8
    obtain ⟨kq, x21_3, rfl, HA, HJ3, HB⟩ := hcut
    cases kq with
    | zero => exact absurd HA.out (by simp [gantletlaw14_TextPure.j0])
    | succ kj3 =>
      have H := HA.out
      clear HA
      simp only [gantletlaw14_TextPure.j0] at H
      by_cases c9 : x21_3 = true
      · subst c9
        have H1 : ((gantletlaw14_awake.f kj3).bind fun t229 => (some t229)) = some r := by rw [if_pos rfl] at H; exact H
        clear H
        have H := H1
        clear H1
        replace H := Option.bind_eq_some_iff.mp H
        obtain ⟨t229, A100, H⟩ := H
        replace H : (some t229) = some r := H
        have A10 := Aside0.mk A100
        clear A100
        obtain rfl := Option.some.inj H
        go_wp2_with (first | ((with_reducible refine gate_callee (f := 8) rfl ?_); refine goesL_ (some 22) rfl rfl Try.func8 (by kernel_rfl) rfl #[] rfl (by (try simp only [List.map_toArray, List.map_cons, List.map_nil]); first | done | rfl | (simp only [List.length_drop, List.length_take]; rfl)) ?_; (with_reducible refine (gantletlaw14_awake.calls kj3  t229 _ A10.out).mono ?_); rintro e w11 ⟨rfl, hb⟩; refine ⟨_, rfl, ?_⟩; have n0_ := Aside0.mk (below_step (by repeat (first | (with_reducible first | exact HB.out | apply below_alloc | apply pw_below_drewN | apply below_drew1) | exact HB.out)) hb); clear HB; have HB := n0_; clear n0_; (try clear hb); (try clear hb2); (try clear hk); (try clear hi)))
        go_ret
        exact ⟨by first | rfl | (simp [errW_none, errW_some] <;> rfl) | (simp [*, errW_none, errW_some] <;> rfl), by repeat (first | (with_reducible first | exact HB.out | apply below_alloc | apply pw_below_drewN | apply below_drew1) | exact HB.out)⟩
      · replace c9 := Bool.eq_false_iff.mpr c9
        subst c9
        have H1 : ((text_Start.f a0 (a1.size : Int)).bind fun bt230 => ((gantletref14_Wrong.f kj3 a0 (a1.size : Int) a1).bind fun t237 => (gantletlaw14_TextPure.l0 kj3 a1 a2 bt230.2.2.2.2.2 t237 (a1.size : Int) 0 bt230.1 bt230.2.1 bt230.2.2.1 bt230.2.2.2.1 bt230.2.2.2.2.1))) = some r := by rw [if_neg (show ¬ (false = true) by decide)] at H; exact H
        clear H
        have H := H1
        clear H1
        replace H := Option.bind_eq_some_iff.mp H
        obtain ⟨⟨t230, t231, t232, t233, t234, t235⟩, A120, H⟩ := H
        replace H : ((gantletref14_Wrong.f kj3 a0 (a1.size : Int) a1).bind fun t237 => (gantletlaw14_TextPure.l0 kj3 a1 a2 t235 t237 (a1.size : Int) 0 t230 t231 t232 t233 t234)) = some r := H
        have A12 := Aside0.mk A120
        clear A120
        replace H := Option.bind_eq_some_iff.mp H
        obtain ⟨t237, A130, H⟩ := H
        replace H : (gantletlaw14_TextPure.l0 kj3 a1 a2 t235 t237 (a1.size : Int) 0 t230 t231 t232 t233 t234) = some r := H
        have A13 := Aside0.mk A130
        clear A130
        have H' := Aside0.mk H
        clear H
        go_wp2_with (first | ((with_reducible refine gate_callee (f := 10) rfl ?_); refine goesL_ (some 27) rfl rfl Try.func10 (by kernel_rfl) rfl #[.int .i64 a0, .int .i64 (a1.size : Int)] rfl (by (try simp only [List.map_toArray, List.map_cons, List.map_nil]); first | done | rfl | (simp only [List.length_drop, List.length_take]; rfl)) ?_; (with_reducible refine (text_Start.calls a0 (a1.size : Int) t230 t231 t232 t233 t234 t235 _ A12.out).mono ?_); rintro e w14 ⟨rfl, hb⟩; refine ⟨_, rfl, ?_⟩; have n0_ := Aside0.mk (below_step (by repeat (first | (with_reducible first | exact HB.out | apply below_alloc | apply pw_below_drewN | apply below_drew1) | exact HB.out)) hb); clear HB; have HB := n0_; clear n0_; (try clear hb); (try clear hb2); (try clear hk); (try clear hi)) | ((with_reducible refine gate_dst (N := 7) rfl ?_); (try (refine gate_guard (by rfl) ?_; dsimp only)); refine box_event ?hg (N := 7) ?hd (cs := #[.int .i64 0, .int .i64 0, .int .i64 0, .int .u8 0, .int .u8 0]) (t := 25) ?hr ?_; (case hd => rfl); (case hg => rfl); (case hr => first | (go_simp; done) | (go_simp; rfl)); intro gb236 hg w15 hbox hb; have n0_ := Aside0.mk (below_step (by repeat (first | (with_reducible first | exact HB.out | apply below_alloc | apply pw_below_drewN | apply below_drew1) | exact HB.out)) hb); have n1_ := Aside0.mk (hbox); have n2_ := Aside0.mk ((by rw [hg]; exact (below_size (by repeat (first | (with_reducible first | exact HB.out | apply below_alloc | apply pw_below_drewN | apply below_drew1) | exact HB.out))) : w.heap.size ≤ gb236)); have n3_ := Aside0.mk ((by rw [hg]; exact (below_size (by repeat (first | (with_reducible first | exact HB.out | apply below_alloc | apply pw_below_drewN | apply below_drew1) | exact HB.out))) : w.heap.size ≤ gb236)); clear HB; have HB := n0_; have BK236 := n1_; have GW236 := n2_; have GE236 := n3_; clear n0_ n1_ n2_ n3_; clear hb hbox hg; have hcz16_0 : w15.cell? ⟨gb236, 0, none⟩ = some (.int .i64 0) := (blk_cell BK236.out 0).trans rfl; have hcz16_1 : w15.cell? ⟨gb236, 1, none⟩ = some (.int .i64 0) := (blk_cell BK236.out 1).trans rfl; have hcz16_2 : w15.cell? ⟨gb236, 2, none⟩ = some (.int .i64 0) := (blk_cell BK236.out 2).trans rfl; have hcz16_3 : w15.cell? ⟨gb236, 3, none⟩ = some (.int .u8 0) := (blk_cell BK236.out 3).trans rfl; have hcz16_4 : w15.cell? ⟨gb236, 4, none⟩ = some (.int .u8 0) := (blk_cell BK236.out 4).trans rfl; have hfz16_0 := blk_frozen BK236.out 0; have hfz16_1 := blk_frozen BK236.out 1; have hfz16_2 := blk_frozen BK236.out 2; have hfz16_3 := blk_frozen BK236.out 3; have hfz16_4 := blk_frozen BK236.out 4) | ((with_reducible refine gate_callee (f := 9) rfl ?_); refine goesL_ (some 34) rfl rfl Try.func9 (by kernel_rfl) rfl #[.int .i64 a0, .int .i64 (a1.size : Int), .string a1] rfl (by (try simp only [List.map_toArray, List.map_cons, List.map_nil]); first | done | rfl | (simp only [List.length_drop, List.length_take]; rfl)) ?_; (with_reducible refine (gantletref14_Wrong.calls kj3 a0 (a1.size : Int) a1 t237 _ A13.out).mono ?_); rintro e w17 ⟨rfl, hb⟩; refine ⟨_, rfl, ?_⟩; have n0_ := Aside0.mk (blk_below (g := gb236) (o := .cells #[.int .i64 t230, .int .i64 t231, .int .i64 t232, .int .u8 t233, .int .u8 t234] 25 (0, 0)) (by (with_reducible repeat (first | refine blk_drewN ?_ _ | refine blk_drew ?_ | refine blk_alloc ?_ _)); refine blk_put (cs := #[.int .i64 t230, .int .i64 t231, .int .i64 t232, .int .u8 t233, .int .u8 0]) ?_ 4 _ rfl; (with_reducible repeat (first | refine blk_drewN ?_ _ | refine blk_drew ?_ | refine blk_alloc ?_ _)); refine blk_put (cs := #[.int .i64 t230, .int .i64 t231, .int .i64 t232, .int .u8 0, .int .u8 0]) ?_ 3 _ rfl; (with_reducible repeat (first | refine blk_drewN ?_ _ | refine blk_drew ?_ | refine blk_alloc ?_ _)); refine blk_put (cs := #[.int .i64 t230, .int .i64 t231, .int .i64 0, .int .u8 0, .int .u8 0]) ?_ 2 _ rfl; (with_reducible repeat (first | refine blk_drewN ?_ _ | refine blk_drew ?_ | refine blk_alloc ?_ _)); refine blk_put (cs := #[.int .i64 t230, .int .i64 0, .int .i64 0, .int .u8 0, .int .u8 0]) ?_ 1 _ rfl; (with_reducible repeat (first | refine blk_drewN ?_ _ | refine blk_drew ?_ | refine blk_alloc ?_ _)); refine blk_put (cs := #[.int .i64 0, .int .i64 0, .int .i64 0, .int .u8 0, .int .u8 0]) ?_ 0 _ rfl; (with_reducible repeat (first | refine blk_drewN ?_ _ | refine blk_drew ?_ | refine blk_alloc ?_ _)); exact BK236.out) hb); have n1_ := Aside0.mk (below_step (by repeat (first | (with_reducible first | exact HB.out | apply below_alloc | apply pw_below_drewN | apply below_drew1 | refine below_set ?_ GE236.out) | exact HB.out)) hb); clear BK236; clear HB; have BK236 := n0_; have HB := n1_; clear n0_ n1_; (try clear hb); (try clear hb2); (try clear hk); (try clear hi)))
        go_loopg [8, 37] kj3 (fun kq v8 v37 w' => ∃ (x8_2 : Bool) (x37_2 : Int) (x237000_2 : Int) (x237001_2 : Int) (x237002_2 : Int) (x237003_2 : Int) (x237004_2 : Int), v8 = .bool x8_2 ∧ v37 = .int .i64 x37_2 ∧ Aside0 (gantletlaw14_TextPure.l0 kq a1 a2 x8_2 t237 (a1.size : Int) x37_2 x237000_2 x237001_2 x237002_2 x237003_2 x237004_2 = some r) ∧ Aside0 (kq ≤ kj3) ∧ Aside0 (w'.heap[gb236]? = some (.cells #[.int .i64 x237000_2, .int .i64 x237001_2, .int .i64 x237002_2, .int .u8 x237003_2, .int .u8 x237004_2] 25 (0, 0))) ∧ Aside0 (Below w.heap.size w w'))
        case atStart => exact ⟨(t235), (0), (t230), (t231), (t232), (t233), (t234), (by first | rfl | (simp; done) | (simp [*]; done)), (by first | rfl | (simp; done) | (simp [*]; done)), H', ⟨Nat.le_refl _⟩, ⟨by (with_reducible repeat (first | refine blk_drewN ?_ _ | refine blk_drew ?_ | refine blk_alloc ?_ _)); exact BK236.out⟩, ⟨by repeat (first | (with_reducible first | exact HB.out | apply below_alloc | apply pw_below_drewN | apply below_drew1 | refine below_set ?_ GE236.out) | exact HB.out)⟩⟩
        case round =>
          clear H'
          try clear c1
          try clear p2
          try clear c6
          try clear c7
          try clear c8
          try clear c9
          try clear c10
          try clear hcz16_0
          try clear hcz16_1
          try clear hcz16_2
          try clear hcz16_3
          try clear hcz16_4
          try clear hfz16_0
          try clear hfz16_1
          try clear hfz16_2
          try clear hfz16_3
          try clear hfz16_4
          try clear p2
          obtain ⟨x8_2, x37_2, x237000_2, x237001_2, x237002_2, x237003_2, x237004_2, rfl, rfl, HA, HK2, BK236, HB⟩ := hrel
          cases gk with
          | zero => exact absurd HA.out (by simp [gantletlaw14_TextPure.l0])
          | succ k2 =>
            have H := HA.out
            clear HA
            simp only [gantletlaw14_TextPure.l0] at H
            by_cases c18 : x37_2 < (a1.size : Int)
            · rw [if_pos c18] at H
              have c18b0 : decide (x37_2 < (a1.size : Int)) = true := decide_eq_true c18
              clear c18
              by_cases c19 : x8_2 = true
              · subst c19
                have H1 : ((text_State_Push.f k2 x237000_2 x237001_2 x237002_2 x237003_2 x237004_2 a2).bind fun bt238 => (if 0 ≤ x37_2 then (if x37_2 < (a1.size : Int) then ((text_State_Push.f k2 x237000_2 x237001_2 x237002_2 x237003_2 x237004_2 (bt a1 x37_2)).bind fun bt244 => ((text_State_Push.f k2 x237000_2 x237001_2 x237002_2 x237003_2 x237004_2 (bt a1 x37_2)).bind fun bt251 => (if (bt244.2.2.2.2.2 != bt251.2.2.2.2.2) = true then (none) else (if (bt244.2.2.2.2.2 != (t237 != (wrap64 (x37_2 + 1)))) = true then (none) else (gantletlaw14_TextPure.l0 k2 a1 a2 bt244.2.2.2.2.2 t237 (a1.size : Int) (wrap64 (x37_2 + 1)) bt244.1 bt244.2.1 bt244.2.2.1 bt244.2.2.2.1 bt244.2.2.2.2.1))))) else (none)) else (none))) = some r := by rw [if_pos rfl] at H; exact H
                clear H
                have H := H1
                clear H1
                replace H := Option.bind_eq_some_iff.mp H
                obtain ⟨⟨t238, t239, t240, t241, t242, t243⟩, A200, H⟩ := H
                replace H : (if 0 ≤ x37_2 then (if x37_2 < (a1.size : Int) then ((text_State_Push.f k2 x237000_2 x237001_2 x237002_2 x237003_2 x237004_2 (bt a1 x37_2)).bind fun bt244 => ((text_State_Push.f k2 x237000_2 x237001_2 x237002_2 x237003_2 x237004_2 (bt a1 x37_2)).bind fun bt251 => (if (bt244.2.2.2.2.2 != bt251.2.2.2.2.2) = true then (none) else (if (bt244.2.2.2.2.2 != (t237 != (wrap64 (x37_2 + 1)))) = true then (none) else (gantletlaw14_TextPure.l0 k2 a1 a2 bt244.2.2.2.2.2 t237 (a1.size : Int) (wrap64 (x37_2 + 1)) bt244.1 bt244.2.1 bt244.2.2.1 bt244.2.2.2.1 bt244.2.2.2.2.1))))) else (none)) else (none)) = some r := H
                have A20 := Aside0.mk A200
                clear A200
                by_cases c21 : 0 ≤ x37_2
                · rw [if_pos c21] at H
                  have c21b0 : decide (0 ≤ x37_2) = true := decide_eq_true c21
                  clear c21
                  by_cases c22 : x37_2 < (a1.size : Int)
                  · rw [if_pos c22] at H
                    have c22b0 : decide (x37_2 < (a1.size : Int)) = true := decide_eq_true c22
                    clear c22
                    replace H := Option.bind_eq_some_iff.mp H
                    obtain ⟨⟨t244, t245, t246, t247, t248, t249⟩, A240, H⟩ := H
                    replace H : ((text_State_Push.f k2 x237000_2 x237001_2 x237002_2 x237003_2 x237004_2 (bt a1 x37_2)).bind fun bt251 => (if (t249 != bt251.2.2.2.2.2) = true then (none) else (if (t249 != (t237 != (wrap64 (x37_2 + 1)))) = true then (none) else (gantletlaw14_TextPure.l0 k2 a1 a2 t249 t237 (a1.size : Int) (wrap64 (x37_2 + 1)) t244 t245 t246 t247 t248)))) = some r := H
                    have A24 := Aside0.mk A240
                    clear A240
                    replace H := Option.bind_eq_some_iff.mp H
                    obtain ⟨⟨t251, t252, t253, t254, t255, t256⟩, A260, H⟩ := H
                    replace H : (if (t249 != t256) = true then (none) else (if (t249 != (t237 != (wrap64 (x37_2 + 1)))) = true then (none) else (gantletlaw14_TextPure.l0 k2 a1 a2 t249 t237 (a1.size : Int) (wrap64 (x37_2 + 1)) t244 t245 t246 t247 t248))) = some r := H
                    have A26 := Aside0.mk A260
                    clear A260
                    by_cases c27 : (t249 != t256) = true
                    · rw [if_pos c27] at H
                      exact absurd H (by simp)
                    · rw [if_neg c27] at H
                      have c27b0 : (t249 != t256) = false := by simpa using c27
                      (try (have c27b1 : decide (t249 = t256) = true := by simpa using c27))
                      (try (have c27b2 : (t249 == t256) = true := by simpa using c27))
                      clear c27
                      by_cases c28 : (t249 != (t237 != (wrap64 (x37_2 + 1)))) = true
                      · rw [if_pos c28] at H
                        exact absurd H (by simp)
                      · rw [if_neg c28] at H
                        have c28b0 : (t249 != (t237 != (wrap64 (x37_2 + 1)))) = false := by simpa using c28
                        (try (have c28b1 : decide (t249 = (t237 != (wrap64 (x37_2 + 1)))) = true := by simpa using c28))
                        (try (have c28b2 : (t249 == (t237 != (wrap64 (x37_2 + 1)))) = true := by simpa using c28))
                        clear c28
                        have H' := Aside0.mk H
                        clear H
                        have hcz29_0 : wr.cell? ⟨gb236, 0, none⟩ = some (.int .i64 x237000_2) := (blk_cell BK236.out 0).trans rfl
                        have hcz29_1 : wr.cell? ⟨gb236, 1, none⟩ = some (.int .i64 x237001_2) := (blk_cell BK236.out 1).trans rfl
                        have hcz29_2 : wr.cell? ⟨gb236, 2, none⟩ = some (.int .i64 x237002_2) := (blk_cell BK236.out 2).trans rfl
                        have hcz29_3 : wr.cell? ⟨gb236, 3, none⟩ = some (.int .u8 x237003_2) := (blk_cell BK236.out 3).trans rfl
                        have hcz29_4 : wr.cell? ⟨gb236, 4, none⟩ = some (.int .u8 x237004_2) := (blk_cell BK236.out 4).trans rfl
                        have hfz29_0 := blk_frozen BK236.out 0
                        have hfz29_1 := blk_frozen BK236.out 1
                        have hfz29_2 := blk_frozen BK236.out 2
                        have hfz29_3 := blk_frozen BK236.out 3
                        have hfz29_4 := blk_frozen BK236.out 4
                        try go_wp2_with (first | ((with_reducible refine gate_callee (f := 11) rfl ?_); refine goesL_ (some 51) rfl rfl Try.func11 (by kernel_rfl) rfl #[.agg #[.int .i64 x237000_2, .int .i64 x237001_2, .int .i64 x237002_2, .int .u8 x237003_2, .int .u8 x237004_2], .int .u8 a2] rfl (by (try simp only [List.map_toArray, List.map_cons, List.map_nil]); first | done | rfl | (simp only [List.length_drop, List.length_take]; rfl)) ?_; (with_reducible refine (text_State_Push.calls k2 x237000_2 x237001_2 x237002_2 x237003_2 x237004_2 a2 t238 t239 t240 t241 t242 t243 _ A20.out).mono ?_); rintro e w30 ⟨rfl, hb⟩; refine ⟨_, rfl, ?_⟩; have n0_ := Aside0.mk (blk_below (g := gb236) (o := .cells #[.int .i64 x237000_2, .int .i64 x237001_2, .int .i64 x237002_2, .int .u8 x237003_2, .int .u8 x237004_2] 25 (0, 0)) (by (with_reducible repeat (first | refine blk_drewN ?_ _ | refine blk_drew ?_ | refine blk_alloc ?_ _)); exact BK236.out) hb); have n1_ := Aside0.mk (below_step (by repeat (first | (with_reducible first | exact HB.out | apply below_alloc | apply pw_below_drewN | apply below_drew1 | refine below_set ?_ GE236.out) | exact HB.out)) hb); clear BK236; clear HB; have BK236 := n0_; have HB := n1_; clear n0_ n1_; (try clear hb); (try clear hb2); (try clear hk); (try clear hi)))
                        have n0_ := Aside0.mk (blk_drew BK236.out)
                        have n1_ := Aside0.mk (below_drew1 HB.out)
                        clear BK236
                        clear HB
                        have BK236 := n0_
                        have HB := n1_
                        clear n0_ n1_
                        have p23 : 0 ≤ (x37_2 : Int) := of_decide_eq_true (by first | (with_reducible assumption) | assumption)
                        have q23 : x37_2 < (a1.size : Int) := of_decide_eq_true (by first | (with_reducible assumption) | assumption)
                        have hx23 := bt_at a1 x37_2
                        replace p23 := eq_true p23
                        replace q23 := eq_true q23
                        refine start_ (n := 11) (S := fun w' => w'.cell? ⟨gb236, 0, none⟩ = some (.int .i64 x237000_2) ∧ w'.cell? ⟨gb236, 1, none⟩ = some (.int .i64 x237001_2) ∧ w'.cell? ⟨gb236, 2, none⟩ = some (.int .i64 x237002_2) ∧ w'.cell? ⟨gb236, 3, none⟩ = some (.int .u8 x237003_2) ∧ w'.cell? ⟨gb236, 4, none⟩ = some (.int .u8 x237004_2)) (ds := []) #[false, false, false, false, false, false, false, false, false, false, false] (by kernel_rfl) rfl rfl ⟨(blk_cell BK236.out 0).trans rfl, (blk_cell BK236.out 1).trans rfl, (blk_cell BK236.out 2).trans rfl, (blk_cell BK236.out 3).trans rfl, (blk_cell BK236.out 4).trans rfl⟩ (fun hHeld => ?_); refine with_tabW gantletlaw14_TextPure.tab11 gantletlaw14_TextPure.bits11 (fun HT_ HW_ => ?_)
                        generalize w30.drew = w31 at BK236 HB hHeld ⊢
                        refine pure_ (i := 1) (N := some 54) (v := ?_) (a' := ?_) #[false, true, false, false, false, false, false, false, false, false, false] rfl rfl (any_of HT_.out (by kernel_rfl)) (fun _ _ _ h => h) (Or.inl ⟨by rfl, ?_⟩) ?_ ?_
                        rotate_left
                        · intro w'
                          go_simp
                          with_reducible rfl
                        rotate_left
                        · simp only [Act.put, List.setIfInBounds_toArray, List.set_cons_zero, List.set_cons_succ, i64_w, i32_w]
                          rfl
                        refine pure_ (i := 2) (N := some 55) (v := ?_) (a' := ?_) #[false, true, true, false, false, false, false, false, false, false, false] rfl rfl (any_of HT_.out (by kernel_rfl)) (fun _ _ _ h => h) (Or.inl ⟨by rfl, ?_⟩) ?_ ?_
                        rotate_left
                        · intro w'
                          go_simp
                          with_reducible rfl
                        rotate_left
                        · simp only [Act.put, List.setIfInBounds_toArray, List.set_cons_zero, List.set_cons_succ, i64_w, i32_w]
                          rfl
                        refine take_ (i := 0) (N := some 53) (v := ?_) (a' := ?_) #[true, true, true, false, false, false, false, false, false, false, false] rfl rfl (take_ofW HT_.out HW_.out (by kernel_rfl)) (fun _ _ _ h => h) (Or.inl ⟨by rfl, ?_⟩) hHeld ?_ ?_
                        rotate_left
                        · rintro w' ⟨s0, s1, s2, s3, s4⟩
                          go_simp
                          with_reducible rfl
                        rotate_left
                        · simp only [Act.put, List.setIfInBounds_toArray, List.set_cons_zero, List.set_cons_succ, i64_w, i32_w]
                          rfl
                        refine take_ (i := 3) (N := some 56) (v := ?_) (a' := ?_) #[true, true, true, true, false, false, false, false, false, false, false] rfl rfl (take_ofW HT_.out HW_.out (by kernel_rfl)) (fun _ _ _ h => h) (Or.inl ⟨by rfl, ?_⟩) hHeld ?_ ?_
                        rotate_left
                        · rintro w' ⟨s0, s1, s2, s3, s4⟩
                          go_simp
                          with_reducible rfl
                        rotate_left
                        · simp only [Act.put, List.setIfInBounds_toArray, List.set_cons_zero, List.set_cons_succ, i64_w, i32_w]
                          rfl
                        refine join_ (σ := Nat) 2 #[true, true, true, true, true, true, true, true, true, false, false] (fun s_ => [(57, .tuple #[.agg #[.int .i64 t244, .int .i64 t245, .int .i64 t246, .int .u8 t247, .int .u8 t248], .bool t249]), (11, .pointer (some ⟨s_, 0, none⟩)), (52, .tuple #[.agg #[.int .i64 t244, .int .i64 t245, .int .i64 t246, .int .u8 t247, .int .u8 t248], .bool t249]), (58, .agg #[.int .i64 t244, .int .i64 t245, .int .i64 t246, .int .u8 t247, .int .u8 t248]), (59, .bool t249)]) (fun s_ w' => (w'.cell? ⟨gb236, 0, none⟩ = some (.int .i64 x237000_2) ∧ w'.cell? ⟨gb236, 1, none⟩ = some (.int .i64 x237001_2) ∧ w'.cell? ⟨gb236, 2, none⟩ = some (.int .i64 x237002_2) ∧ w'.cell? ⟨gb236, 3, none⟩ = some (.int .u8 x237003_2) ∧ w'.cell? ⟨gb236, 4, none⟩ = some (.int .u8 x237004_2)) ∧ (w'.heap[gb236]? = some (.cells #[.int .i64 x237000_2, .int .i64 x237001_2, .int .i64 x237002_2, .int .u8 x237003_2, .int .u8 x237004_2] 25 (0, 0))) ∧ (w'.heap[s_]? = some (.cells #[.int .i64 0, .int .i64 0, .int .i64 0, .int .u8 0, .int .u8 0] 25 (0, 0))) ∧ (w.heap.size ≤ s_) ∧ (w.heap.size ≤ s_) ∧ (gb236 ≠ s_) ∧ (s_ ≠ gb236) ∧ (Below w.heap.size w w')) ?_ ?_
                        rotate_left
                        · intro hCont
                          refine two_ (i := 4) (j := 8) (Ni := some 57) (Nj := some 11) #[true, true, true, true, true, false, false, false, false, false, false] #[true, true, true, true, false, false, false, false, true, false, false] rfl rfl rfl rfl (two_of HT_.out (by kernel_rfl)) (by decide) (by decide) (fun K hK => ?_) (fun K hK => ?_)
                          · skip
                            refine goes_ Try.func11 (by kernel_rfl) rfl #[.agg #[.int .i64 x237000_2, .int .i64 x237001_2, .int .i64 x237002_2, .int .u8 x237003_2, .int .u8 x237004_2], .int .u8 (bt a1 x37_2)] (by rfl) rfl rfl (by (try simp only [List.map_toArray, List.map_cons, List.map_nil]); first | done | rfl | (simp only [List.length_drop, List.length_take]; rfl)) ?_
                            with_reducible refine (text_State_Push.calls k2 x237000_2 x237001_2 x237002_2 x237003_2 x237004_2 (bt a1 x37_2) t244 t245 t246 t247 t248 t249 _ A24.out).mono ?_
                            rintro e w32 ⟨rfl, hb⟩
                            refine ⟨_, rfl, ?_⟩
                            have n0_ := Aside0.mk (blk_below (g := gb236) (o := .cells #[.int .i64 x237000_2, .int .i64 x237001_2, .int .i64 x237002_2, .int .u8 x237003_2, .int .u8 x237004_2] 25 (0, 0)) (by (with_reducible repeat (first | refine blk_drewN ?_ _ | refine blk_drew ?_ | refine blk_alloc ?_ _)); exact BK236.out) hb)
                            have n1_ := Aside0.mk (below_step (by repeat (first | (with_reducible first | exact HB.out | apply below_alloc | apply pw_below_drewN | apply below_drew1 | refine below_set ?_ GE236.out) | exact HB.out)) hb)
                            clear BK236
                            clear HB
                            have BK236 := n0_
                            have HB := n1_
                            clear n0_ n1_
                            (try clear hb)
                            (try clear hb2)
                            (try clear hk)
                            (try clear hi)
                            refine hK.out _ _ ⟨(blk_cell BK236.out 0).trans rfl, (blk_cell BK236.out 1).trans rfl, (blk_cell BK236.out 2).trans rfl, (blk_cell BK236.out 3).trans rfl, (blk_cell BK236.out 4).trans rfl⟩ (fun hHeld => ?_)
                            clear hK K
                            refine norm_ (a' := ?_) ?_ ?_
                            rotate_left
                            · show Act.put _ (some 57) _ = _
                              simp only [Act.put, List.setIfInBounds_toArray, List.set_cons_zero, List.set_cons_succ, i64_w, i32_w]
                              rfl
                            refine pure_ (i := 5) (N := some 52) (v := ?_) (a' := ?_) #[true, true, true, true, true, true, false, false, false, false, false] rfl rfl (any_of HT_.out (by kernel_rfl)) (fun _ _ _ h => h) (Or.inl ⟨by rfl, ?_⟩) ?_ ?_
                            rotate_left
                            · intro w'
                              go_simp
                              with_reducible rfl
                            rotate_left
                            · simp only [Act.put, List.setIfInBounds_toArray, List.set_cons_zero, List.set_cons_succ, i64_w, i32_w]
                              rfl
                            refine pure_ (i := 6) (N := some 58) (v := ?_) (a' := ?_) #[true, true, true, true, true, true, true, false, false, false, false] rfl rfl (any_of HT_.out (by kernel_rfl)) (fun _ _ _ h => h) (Or.inl ⟨by rfl, ?_⟩) ?_ ?_
                            rotate_left
                            · intro w'
                              go_simp
                              with_reducible rfl
                            rotate_left
                            · simp only [Act.put, List.setIfInBounds_toArray, List.set_cons_zero, List.set_cons_succ, i64_w, i32_w]
                              rfl
                            refine pure_ (i := 7) (N := some 59) (v := ?_) (a' := ?_) #[true, true, true, true, true, true, true, true, false, false, false] rfl rfl (any_of HT_.out (by kernel_rfl)) (fun _ _ _ h => h) (Or.inl ⟨by rfl, ?_⟩) ?_ ?_
                            rotate_left
                            · intro w'
                              go_simp
                              with_reducible rfl
                            rotate_left
                            · simp only [Act.put, List.setIfInBounds_toArray, List.set_cons_zero, List.set_cons_succ, i64_w, i32_w]
                              rfl
                            refine one_ (i := 8) (N := some 11) #[true, true, true, true, true, true, true, true, true, false, false] rfl rfl (one_of HT_.out (by kernel_rfl)) (by decide) (fun K hK => ?_)
                            refine box_step ?hg (N := 11) ?hd (cs := #[.int .i64 0, .int .i64 0, .int .i64 0, .int .u8 0, .int .u8 0]) (t := 25) ?hr ?_; (case hd => rfl); (case hg => rfl); (case hr => first | (go_simp; done) | (go_simp; rfl))
                            intro gb250 hg w33 hbox hb
                            have n0_ := Aside0.mk (blk_below (g := gb236) (o := .cells #[.int .i64 x237000_2, .int .i64 x237001_2, .int .i64 x237002_2, .int .u8 x237003_2, .int .u8 x237004_2] 25 (0, 0)) (by (with_reducible repeat (first | refine blk_drewN ?_ _ | refine blk_drew ?_ | refine blk_alloc ?_ _)); exact BK236.out) hb)
                            have n1_ := Aside0.mk (below_step (by repeat (first | (with_reducible first | exact HB.out | apply below_alloc | apply pw_below_drewN | apply below_drew1 | refine below_set ?_ GE236.out) | exact HB.out)) hb)
                            have n2_ := Aside0.mk (hbox)
                            have n3_ := Aside0.mk ((by rw [hg]; exact (below_size (by repeat (first | (with_reducible first | exact HB.out | apply below_alloc | apply pw_below_drewN | apply below_drew1 | refine below_set ?_ GE236.out) | exact HB.out))) : w.heap.size ≤ gb250))
                            have n4_ := Aside0.mk ((by rw [hg]; exact (below_size (by repeat (first | (with_reducible first | exact HB.out | apply below_alloc | apply pw_below_drewN | apply below_drew1 | refine below_set ?_ GE236.out) | exact HB.out))) : w.heap.size ≤ gb250))
                            have n5_ := Aside0.mk ((by rw [hg]; exact Nat.ne_of_lt (blk_lt (g := gb236) (o := .cells #[.int .i64 x237000_2, .int .i64 x237001_2, .int .i64 x237002_2, .int .u8 x237003_2, .int .u8 x237004_2] 25 (0, 0)) (by (with_reducible repeat (first | refine blk_drewN ?_ _ | refine blk_drew ?_ | refine blk_alloc ?_ _)); exact BK236.out)) : gb236 ≠ gb250))
                            have n6_ := Aside0.mk ((by rw [hg]; exact Nat.ne_of_gt (blk_lt (g := gb236) (o := .cells #[.int .i64 x237000_2, .int .i64 x237001_2, .int .i64 x237002_2, .int .u8 x237003_2, .int .u8 x237004_2] 25 (0, 0)) (by (with_reducible repeat (first | refine blk_drewN ?_ _ | refine blk_drew ?_ | refine blk_alloc ?_ _)); exact BK236.out)) : gb250 ≠ gb236))
                            clear BK236
                            clear HB
                            have BK236 := n0_
                            have HB := n1_
                            have BK250 := n2_
                            have GW250 := n3_
                            have GE250 := n4_
                            have NB236_250 := n5_
                            have NB250_236 := n6_
                            clear n0_ n1_ n2_ n3_ n4_ n5_ n6_
                            clear hb hbox hg
                            refine hK.out _ _ ⟨(blk_cell BK236.out 0).trans rfl, (blk_cell BK236.out 1).trans rfl, (blk_cell BK236.out 2).trans rfl, (blk_cell BK236.out 3).trans rfl, (blk_cell BK236.out 4).trans rfl⟩ (fun hHeld => ?_)
                            clear hK K
                            refine norm_ (a' := ?_) ?_ ?_
                            rotate_left
                            · show Act.put _ (some 11) _ = _
                              simp only [Act.put, List.setIfInBounds_toArray, List.set_cons_zero, List.set_cons_succ, i64_w, i32_w]
                              rfl
                            exact norm_ (by simp only [putAll, Act.put, List.setIfInBounds_toArray, List.set_cons_zero, List.set_cons_succ]) (hCont (gb250) _ ⟨hHeld, (by (with_reducible repeat (first | refine blk_drewN ?_ _ | refine blk_drew ?_ | refine blk_alloc ?_ _)); exact BK236.out), (by (with_reducible repeat (first | refine blk_drewN ?_ _ | refine blk_drew ?_ | refine blk_alloc ?_ _)); exact BK250.out), GW250.out, GE250.out, NB236_250.out, NB250_236.out, (by repeat (first | (with_reducible first | exact HB.out | apply below_alloc | apply pw_below_drewN | apply below_drew1 | refine below_set ?_ GE236.out | refine below_set ?_ GE250.out) | exact HB.out))⟩)
                          · skip
                            refine box_step ?hg (N := 11) ?hd (cs := #[.int .i64 0, .int .i64 0, .int .i64 0, .int .u8 0, .int .u8 0]) (t := 25) ?hr ?_; (case hd => rfl); (case hg => rfl); (case hr => first | (go_simp; done) | (go_simp; rfl))
                            intro gb250 hg w32 hbox hb
                            have n0_ := Aside0.mk (blk_below (g := gb236) (o := .cells #[.int .i64 x237000_2, .int .i64 x237001_2, .int .i64 x237002_2, .int .u8 x237003_2, .int .u8 x237004_2] 25 (0, 0)) (by (with_reducible repeat (first | refine blk_drewN ?_ _ | refine blk_drew ?_ | refine blk_alloc ?_ _)); exact BK236.out) hb)
                            have n1_ := Aside0.mk (below_step (by repeat (first | (with_reducible first | exact HB.out | apply below_alloc | apply pw_below_drewN | apply below_drew1 | refine below_set ?_ GE236.out) | exact HB.out)) hb)
                            have n2_ := Aside0.mk (hbox)
                            have n3_ := Aside0.mk ((by rw [hg]; exact (below_size (by repeat (first | (with_reducible first | exact HB.out | apply below_alloc | apply pw_below_drewN | apply below_drew1 | refine below_set ?_ GE236.out) | exact HB.out))) : w.heap.size ≤ gb250))
                            have n4_ := Aside0.mk ((by rw [hg]; exact (below_size (by repeat (first | (with_reducible first | exact HB.out | apply below_alloc | apply pw_below_drewN | apply below_drew1 | refine below_set ?_ GE236.out) | exact HB.out))) : w.heap.size ≤ gb250))
                            have n5_ := Aside0.mk ((by rw [hg]; exact Nat.ne_of_lt (blk_lt (g := gb236) (o := .cells #[.int .i64 x237000_2, .int .i64 x237001_2, .int .i64 x237002_2, .int .u8 x237003_2, .int .u8 x237004_2] 25 (0, 0)) (by (with_reducible repeat (first | refine blk_drewN ?_ _ | refine blk_drew ?_ | refine blk_alloc ?_ _)); exact BK236.out)) : gb236 ≠ gb250))
                            have n6_ := Aside0.mk ((by rw [hg]; exact Nat.ne_of_gt (blk_lt (g := gb236) (o := .cells #[.int .i64 x237000_2, .int .i64 x237001_2, .int .i64 x237002_2, .int .u8 x237003_2, .int .u8 x237004_2] 25 (0, 0)) (by (with_reducible repeat (first | refine blk_drewN ?_ _ | refine blk_drew ?_ | refine blk_alloc ?_ _)); exact BK236.out)) : gb250 ≠ gb236))
                            clear BK236
                            clear HB
                            have BK236 := n0_
                            have HB := n1_
                            have BK250 := n2_
                            have GW250 := n3_
                            have GE250 := n4_
                            have NB236_250 := n5_
                            have NB250_236 := n6_
                            clear n0_ n1_ n2_ n3_ n4_ n5_ n6_
                            clear hb hbox hg
                            refine hK.out _ _ ⟨(blk_cell BK236.out 0).trans rfl, (blk_cell BK236.out 1).trans rfl, (blk_cell BK236.out 2).trans rfl, (blk_cell BK236.out 3).trans rfl, (blk_cell BK236.out 4).trans rfl⟩ (fun hHeld => ?_)
                            clear hK K
                            refine norm_ (a' := ?_) ?_ ?_
                            rotate_left
                            · show Act.put _ (some 11) _ = _
                              simp only [Act.put, List.setIfInBounds_toArray, List.set_cons_zero, List.set_cons_succ, i64_w, i32_w]
                              rfl
                            refine one_ (i := 4) (N := some 57) #[true, true, true, true, true, false, false, false, true, false, false] rfl rfl (one_of HT_.out (by kernel_rfl)) (by decide) (fun K hK => ?_)
                            refine goes_ Try.func11 (by kernel_rfl) rfl #[.agg #[.int .i64 x237000_2, .int .i64 x237001_2, .int .i64 x237002_2, .int .u8 x237003_2, .int .u8 x237004_2], .int .u8 (bt a1 x37_2)] (by rfl) rfl rfl (by (try simp only [List.map_toArray, List.map_cons, List.map_nil]); first | done | rfl | (simp only [List.length_drop, List.length_take]; rfl)) ?_
                            with_reducible refine (text_State_Push.calls k2 x237000_2 x237001_2 x237002_2 x237003_2 x237004_2 (bt a1 x37_2) t244 t245 t246 t247 t248 t249 _ A24.out).mono ?_
                            rintro e w33 ⟨rfl, hb⟩
                            refine ⟨_, rfl, ?_⟩
                            have n0_ := Aside0.mk (blk_below (g := gb236) (o := .cells #[.int .i64 x237000_2, .int .i64 x237001_2, .int .i64 x237002_2, .int .u8 x237003_2, .int .u8 x237004_2] 25 (0, 0)) (by (with_reducible repeat (first | refine blk_drewN ?_ _ | refine blk_drew ?_ | refine blk_alloc ?_ _)); exact BK236.out) hb)
                            have n1_ := Aside0.mk (blk_below (g := gb250) (o := .cells #[.int .i64 0, .int .i64 0, .int .i64 0, .int .u8 0, .int .u8 0] 25 (0, 0)) (by (with_reducible repeat (first | refine blk_drewN ?_ _ | refine blk_drew ?_ | refine blk_alloc ?_ _)); exact BK250.out) hb)
                            have n2_ := Aside0.mk (below_step (by repeat (first | (with_reducible first | exact HB.out | apply below_alloc | apply pw_below_drewN | apply below_drew1 | refine below_set ?_ GE236.out | refine below_set ?_ GE250.out) | exact HB.out)) hb)
                            clear BK236
                            clear BK250
                            clear HB
                            have BK236 := n0_
                            have BK250 := n1_
                            have HB := n2_
                            clear n0_ n1_ n2_
                            (try clear hb)
                            (try clear hb2)
                            (try clear hk)
                            (try clear hi)
                            refine hK.out _ _ ⟨(blk_cell BK236.out 0).trans rfl, (blk_cell BK236.out 1).trans rfl, (blk_cell BK236.out 2).trans rfl, (blk_cell BK236.out 3).trans rfl, (blk_cell BK236.out 4).trans rfl⟩ (fun hHeld => ?_)
                            clear hK K
                            refine norm_ (a' := ?_) ?_ ?_
                            rotate_left
                            · show Act.put _ (some 57) _ = _
                              simp only [Act.put, List.setIfInBounds_toArray, List.set_cons_zero, List.set_cons_succ, i64_w, i32_w]
                              rfl
                            refine pure_ (i := 5) (N := some 52) (v := ?_) (a' := ?_) #[true, true, true, true, true, true, false, false, true, false, false] rfl rfl (any_of HT_.out (by kernel_rfl)) (fun _ _ _ h => h) (Or.inl ⟨by rfl, ?_⟩) ?_ ?_
                            rotate_left
                            · intro w'
                              go_simp
                              with_reducible rfl
                            rotate_left
                            · simp only [Act.put, List.setIfInBounds_toArray, List.set_cons_zero, List.set_cons_succ, i64_w, i32_w]
                              rfl
                            refine pure_ (i := 6) (N := some 58) (v := ?_) (a' := ?_) #[true, true, true, true, true, true, true, false, true, false, false] rfl rfl (any_of HT_.out (by kernel_rfl)) (fun _ _ _ h => h) (Or.inl ⟨by rfl, ?_⟩) ?_ ?_
                            rotate_left
                            · intro w'
                              go_simp
                              with_reducible rfl
                            rotate_left
                            · simp only [Act.put, List.setIfInBounds_toArray, List.set_cons_zero, List.set_cons_succ, i64_w, i32_w]
                              rfl
                            refine pure_ (i := 7) (N := some 59) (v := ?_) (a' := ?_) #[true, true, true, true, true, true, true, true, true, false, false] rfl rfl (any_of HT_.out (by kernel_rfl)) (fun _ _ _ h => h) (Or.inl ⟨by rfl, ?_⟩) ?_ ?_
                            rotate_left
                            · intro w'
                              go_simp
                              with_reducible rfl
                            rotate_left
                            · simp only [Act.put, List.setIfInBounds_toArray, List.set_cons_zero, List.set_cons_succ, i64_w, i32_w]
                              rfl
                            exact norm_ (by simp only [putAll, Act.put, List.setIfInBounds_toArray, List.set_cons_zero, List.set_cons_succ]) (hCont (gb250) _ ⟨hHeld, (by (with_reducible repeat (first | refine blk_drewN ?_ _ | refine blk_drew ?_ | refine blk_alloc ?_ _)); exact BK236.out), (by (with_reducible repeat (first | refine blk_drewN ?_ _ | refine blk_drew ?_ | refine blk_alloc ?_ _)); exact BK250.out), GW250.out, GE250.out, NB236_250.out, NB250_236.out, (by repeat (first | (with_reducible first | exact HB.out | apply below_alloc | apply pw_below_drewN | apply below_drew1 | refine below_set ?_ GE236.out | refine below_set ?_ GE250.out) | exact HB.out))⟩)
                        rintro gb250 w34 ⟨hS_, h0_, h1_, h2_, h3_, h4_, h5_, h6_⟩
                        have n0_ : Aside0 (w34.heap[gb236]? = some (.cells #[.int .i64 x237000_2, .int .i64 x237001_2, .int .i64 x237002_2, .int .u8 x237003_2, .int .u8 x237004_2] 25 (0, 0))) := ⟨h0_⟩
                        have n1_ : Aside0 (w34.heap[gb250]? = some (.cells #[.int .i64 0, .int .i64 0, .int .i64 0, .int .u8 0, .int .u8 0] 25 (0, 0))) := ⟨h1_⟩
                        have n2_ : Aside0 (w.heap.size ≤ gb250) := ⟨h2_⟩
                        have n3_ : Aside0 (w.heap.size ≤ gb250) := ⟨h3_⟩
                        have n4_ : Aside0 (gb236 ≠ gb250) := ⟨h4_⟩
                        have n5_ : Aside0 (gb250 ≠ gb236) := ⟨h5_⟩
                        have n6_ : Aside0 (Below w.heap.size w w34) := ⟨h6_⟩
                        clear BK236
                        clear HB
                        clear h0_ h1_ h2_ h3_ h4_ h5_ h6_
                        have BK236 := n0_
                        have BK250 := n1_
                        have GW250 := n2_
                        have GE250 := n3_
                        have NB236_250 := n4_
                        have NB250_236 := n5_
                        have HB := n6_
                        clear n0_ n1_ n2_ n3_ n4_ n5_ n6_
                        have hHeld : w34.cell? ⟨gb236, 0, none⟩ = some (.int .i64 x237000_2) ∧ w34.cell? ⟨gb236, 1, none⟩ = some (.int .i64 x237001_2) ∧ w34.cell? ⟨gb236, 2, none⟩ = some (.int .i64 x237002_2) ∧ w34.cell? ⟨gb236, 3, none⟩ = some (.int .u8 x237003_2) ∧ w34.cell? ⟨gb236, 4, none⟩ = some (.int .u8 x237004_2) := hS_
                        refine norm_ (a' := ?_) ?_ ?_
                        rotate_left
                        · simp only [putAll, Act.put, List.setIfInBounds_toArray, List.set_cons_zero, List.set_cons_succ]
                          rfl
                        refine one_ (i := 9) (N := none) #[true, true, true, true, true, true, true, true, true, true, false] rfl rfl (one_of HT_.out (by kernel_rfl)) (by decide) (fun K hK => ?_)
                        have hs35 : w34.cell? ⟨gb250, 0, none⟩ = some (.int .i64 0) := (blk_cell BK250.out 0).trans rfl
                        have hfs35 := blk_frozen BK250.out 0
                        have hns35_0 := NB236_250.out
                        have hms35_0 := NB250_236.out
                        have hs36 : w34.cell? ⟨gb250, 1, none⟩ = some (.int .i64 0) := (blk_cell BK250.out 1).trans rfl
                        have hfs36 := blk_frozen BK250.out 1
                        have hns36_0 := NB236_250.out
                        have hms36_0 := NB250_236.out
                        have hs37 : w34.cell? ⟨gb250, 2, none⟩ = some (.int .i64 0) := (blk_cell BK250.out 2).trans rfl
                        have hfs37 := blk_frozen BK250.out 2
                        have hns37_0 := NB236_250.out
                        have hms37_0 := NB250_236.out
                        have hs38 : w34.cell? ⟨gb250, 3, none⟩ = some (.int .u8 0) := (blk_cell BK250.out 3).trans rfl
                        have hfs38 := blk_frozen BK250.out 3
                        have hns38_0 := NB236_250.out
                        have hms38_0 := NB250_236.out
                        have hs39 : w34.cell? ⟨gb250, 4, none⟩ = some (.int .u8 0) := (blk_cell BK250.out 4).trans rfl
                        have hfs39 := blk_frozen BK250.out 4
                        have hns39_0 := NB236_250.out
                        have hms39_0 := NB250_236.out
                        refine skip_ (w1 := ?_) (by rfl) rfl ?_ ?_
                        rotate_left
                        · go_simp
                          rfl
                        refine hK.out _ _ ⟨((cell_far (p := ⟨gb250, _, none⟩) NB236_250.out _).trans (((cell_far (p := ⟨gb250, _, none⟩) NB236_250.out _).trans (((cell_far (p := ⟨gb250, _, none⟩) NB236_250.out _).trans (((cell_far (p := ⟨gb250, _, none⟩) NB236_250.out _).trans (((cell_far (p := ⟨gb250, _, none⟩) NB236_250.out _).trans (hHeld.1)))))))))), ((cell_far (p := ⟨gb250, _, none⟩) NB236_250.out _).trans (((cell_far (p := ⟨gb250, _, none⟩) NB236_250.out _).trans (((cell_far (p := ⟨gb250, _, none⟩) NB236_250.out _).trans (((cell_far (p := ⟨gb250, _, none⟩) NB236_250.out _).trans (((cell_far (p := ⟨gb250, _, none⟩) NB236_250.out _).trans (hHeld.2.1)))))))))), ((cell_far (p := ⟨gb250, _, none⟩) NB236_250.out _).trans (((cell_far (p := ⟨gb250, _, none⟩) NB236_250.out _).trans (((cell_far (p := ⟨gb250, _, none⟩) NB236_250.out _).trans (((cell_far (p := ⟨gb250, _, none⟩) NB236_250.out _).trans (((cell_far (p := ⟨gb250, _, none⟩) NB236_250.out _).trans (hHeld.2.2.1)))))))))), ((cell_far (p := ⟨gb250, _, none⟩) NB236_250.out _).trans (((cell_far (p := ⟨gb250, _, none⟩) NB236_250.out _).trans (((cell_far (p := ⟨gb250, _, none⟩) NB236_250.out _).trans (((cell_far (p := ⟨gb250, _, none⟩) NB236_250.out _).trans (((cell_far (p := ⟨gb250, _, none⟩) NB236_250.out _).trans (hHeld.2.2.2.1)))))))))), ((cell_far (p := ⟨gb250, _, none⟩) NB236_250.out _).trans (((cell_far (p := ⟨gb250, _, none⟩) NB236_250.out _).trans (((cell_far (p := ⟨gb250, _, none⟩) NB236_250.out _).trans (((cell_far (p := ⟨gb250, _, none⟩) NB236_250.out _).trans (((cell_far (p := ⟨gb250, _, none⟩) NB236_250.out _).trans (hHeld.2.2.2.2))))))))))⟩ (fun hHeld => ?_)
                        clear hK K
                        refine pure_ (i := 10) (N := some 12) (v := ?_) (a' := ?_) #[true, true, true, true, true, true, true, true, true, true, true] rfl rfl (any_of HT_.out (by kernel_rfl)) (fun _ _ _ h => h) (Or.inl ⟨by rfl, ?_⟩) ?_ ?_
                        rotate_left
                        · intro w'
                          go_simp
                          with_reducible rfl
                        rotate_left
                        · simp only [Act.put, List.setIfInBounds_toArray, List.set_cons_zero, List.set_cons_succ, i64_w, i32_w]
                          rfl
                        refine done_ (done_of HT_.out (by kernel_rfl)) ?_
                        try go_wp2
                        have n0_ : Aside0 ((((((w34.setCell ⟨gb250, 0, none⟩ (.int .i64 t244)).setCell ⟨gb250, 1, none⟩ (.int .i64 t245)).setCell ⟨gb250, 2, none⟩ (.int .i64 t246)).setCell ⟨gb250, 3, none⟩ (.int .u8 t247)).setCell ⟨gb250, 4, none⟩ (.int .u8 t248)).heap[gb236]? = some (.cells #[.int .i64 x237000_2, .int .i64 x237001_2, .int .i64 x237002_2, .int .u8 x237003_2, .int .u8 x237004_2] 25 (0, 0))) := ⟨by (with_reducible repeat (first | refine blk_drewN ?_ _ | refine blk_drew ?_ | refine blk_alloc ?_ _)); refine blk_far ?_ NB236_250.out _; (with_reducible repeat (first | refine blk_drewN ?_ _ | refine blk_drew ?_ | refine blk_alloc ?_ _)); refine blk_far ?_ NB236_250.out _; (with_reducible repeat (first | refine blk_drewN ?_ _ | refine blk_drew ?_ | refine blk_alloc ?_ _)); refine blk_far ?_ NB236_250.out _; (with_reducible repeat (first | refine blk_drewN ?_ _ | refine blk_drew ?_ | refine blk_alloc ?_ _)); refine blk_far ?_ NB236_250.out _; (with_reducible repeat (first | refine blk_drewN ?_ _ | refine blk_drew ?_ | refine blk_alloc ?_ _)); refine blk_far ?_ NB236_250.out _; (with_reducible repeat (first | refine blk_drewN ?_ _ | refine blk_drew ?_ | refine blk_alloc ?_ _)); exact BK236.out⟩
                        have n1_ : Aside0 ((((((w34.setCell ⟨gb250, 0, none⟩ (.int .i64 t244)).setCell ⟨gb250, 1, none⟩ (.int .i64 t245)).setCell ⟨gb250, 2, none⟩ (.int .i64 t246)).setCell ⟨gb250, 3, none⟩ (.int .u8 t247)).setCell ⟨gb250, 4, none⟩ (.int .u8 t248)).heap[gb250]? = some (.cells #[.int .i64 t244, .int .i64 t245, .int .i64 t246, .int .u8 t247, .int .u8 t248] 25 (0, 0))) := ⟨by (with_reducible repeat (first | refine blk_drewN ?_ _ | refine blk_drew ?_ | refine blk_alloc ?_ _)); refine blk_put (cs := #[.int .i64 t244, .int .i64 t245, .int .i64 t246, .int .u8 t247, .int .u8 0]) ?_ 4 _ rfl; (with_reducible repeat (first | refine blk_drewN ?_ _ | refine blk_drew ?_ | refine blk_alloc ?_ _)); refine blk_put (cs := #[.int .i64 t244, .int .i64 t245, .int .i64 t246, .int .u8 0, .int .u8 0]) ?_ 3 _ rfl; (with_reducible repeat (first | refine blk_drewN ?_ _ | refine blk_drew ?_ | refine blk_alloc ?_ _)); refine blk_put (cs := #[.int .i64 t244, .int .i64 t245, .int .i64 0, .int .u8 0, .int .u8 0]) ?_ 2 _ rfl; (with_reducible repeat (first | refine blk_drewN ?_ _ | refine blk_drew ?_ | refine blk_alloc ?_ _)); refine blk_put (cs := #[.int .i64 t244, .int .i64 0, .int .i64 0, .int .u8 0, .int .u8 0]) ?_ 1 _ rfl; (with_reducible repeat (first | refine blk_drewN ?_ _ | refine blk_drew ?_ | refine blk_alloc ?_ _)); refine blk_put (cs := #[.int .i64 0, .int .i64 0, .int .i64 0, .int .u8 0, .int .u8 0]) ?_ 0 _ rfl; (with_reducible repeat (first | refine blk_drewN ?_ _ | refine blk_drew ?_ | refine blk_alloc ?_ _)); exact BK250.out⟩
                        have n2_ : Aside0 (Below w.heap.size w (((((w34.setCell ⟨gb250, 0, none⟩ (.int .i64 t244)).setCell ⟨gb250, 1, none⟩ (.int .i64 t245)).setCell ⟨gb250, 2, none⟩ (.int .i64 t246)).setCell ⟨gb250, 3, none⟩ (.int .u8 t247)).setCell ⟨gb250, 4, none⟩ (.int .u8 t248))) := ⟨by repeat (first | (with_reducible first | exact HB.out | apply below_alloc | apply pw_below_drewN | apply below_drew1 | refine below_set ?_ GE236.out | refine below_set ?_ GE250.out) | exact HB.out)⟩
                        (try clear BK236)
                        (try clear BK250)
                        (try clear HB)
                        generalize (((((w34.setCell ⟨gb250, 0, none⟩ (.int .i64 t244)).setCell ⟨gb250, 1, none⟩ (.int .i64 t245)).setCell ⟨gb250, 2, none⟩ (.int .i64 t246)).setCell ⟨gb250, 3, none⟩ (.int .u8 t247)).setCell ⟨gb250, 4, none⟩ (.int .u8 t248)) = w40 at n0_ n1_ n2_ ⊢
                        have BK236 := n0_
                        have BK250 := n1_
                        have HB := n2_
                        clear n0_ n1_ n2_
                        have n0_ := Aside0.mk (blk_drew BK236.out)
                        have n1_ := Aside0.mk (blk_drew BK250.out)
                        have n2_ := Aside0.mk (below_drew1 HB.out)
                        clear BK236
                        clear BK250
                        clear HB
                        have BK236 := n0_
                        have BK250 := n1_
                        have HB := n2_
                        clear n0_ n1_ n2_
                        have p25 : 0 ≤ (x37_2 : Int) := of_decide_eq_true (by first | (with_reducible assumption) | assumption)
                        have q25 : x37_2 < (a1.size : Int) := of_decide_eq_true (by first | (with_reducible assumption) | assumption)
                        have hx25 := bt_at a1 x37_2
                        replace p25 := eq_true p25
                        replace q25 := eq_true q25
                        refine start_ (n := 11) (S := fun w' => w'.cell? ⟨gb236, 0, none⟩ = some (.int .i64 x237000_2) ∧ w'.cell? ⟨gb236, 1, none⟩ = some (.int .i64 x237001_2) ∧ w'.cell? ⟨gb236, 2, none⟩ = some (.int .i64 x237002_2) ∧ w'.cell? ⟨gb236, 3, none⟩ = some (.int .u8 x237003_2) ∧ w'.cell? ⟨gb236, 4, none⟩ = some (.int .u8 x237004_2)) (ds := []) #[false, false, false, false, false, false, false, false, false, false, false] (by kernel_rfl) rfl rfl ⟨(blk_cell BK236.out 0).trans rfl, (blk_cell BK236.out 1).trans rfl, (blk_cell BK236.out 2).trans rfl, (blk_cell BK236.out 3).trans rfl, (blk_cell BK236.out 4).trans rfl⟩ (fun hHeld => ?_); refine with_tabW gantletlaw14_TextPure.tab12 gantletlaw14_TextPure.bits12 (fun HT_ HW_ => ?_)
                        generalize w40.drew = w41 at BK236 BK250 HB hHeld ⊢
                        refine pure_ (i := 1) (N := some 62) (v := ?_) (a' := ?_) #[false, true, false, false, false, false, false, false, false, false, false] rfl rfl (any_of HT_.out (by kernel_rfl)) (fun _ _ _ h => h) (Or.inl ⟨by rfl, ?_⟩) ?_ ?_
                        rotate_left
                        · intro w'
                          go_simp
                          with_reducible rfl
                        rotate_left
                        · simp only [Act.put, List.setIfInBounds_toArray, List.set_cons_zero, List.set_cons_succ, i64_w, i32_w]
                          rfl
                        refine pure_ (i := 2) (N := some 63) (v := ?_) (a' := ?_) #[false, true, true, false, false, false, false, false, false, false, false] rfl rfl (any_of HT_.out (by kernel_rfl)) (fun _ _ _ h => h) (Or.inl ⟨by rfl, ?_⟩) ?_ ?_
                        rotate_left
                        · intro w'
                          go_simp
                          with_reducible rfl
                        rotate_left
                        · simp only [Act.put, List.setIfInBounds_toArray, List.set_cons_zero, List.set_cons_succ, i64_w, i32_w]
                          rfl
                        refine take_ (i := 0) (N := some 61) (v := ?_) (a' := ?_) #[true, true, true, false, false, false, false, false, false, false, false] rfl rfl (take_ofW HT_.out HW_.out (by kernel_rfl)) (fun _ _ _ h => h) (Or.inl ⟨by rfl, ?_⟩) hHeld ?_ ?_
                        rotate_left
                        · rintro w' ⟨s0, s1, s2, s3, s4⟩
                          go_simp
                          with_reducible rfl
                        rotate_left
                        · simp only [Act.put, List.setIfInBounds_toArray, List.set_cons_zero, List.set_cons_succ, i64_w, i32_w]
                          rfl
                        refine take_ (i := 3) (N := some 64) (v := ?_) (a' := ?_) #[true, true, true, true, false, false, false, false, false, false, false] rfl rfl (take_ofW HT_.out HW_.out (by kernel_rfl)) (fun _ _ _ h => h) (Or.inl ⟨by rfl, ?_⟩) hHeld ?_ ?_
                        rotate_left
                        · rintro w' ⟨s0, s1, s2, s3, s4⟩
                          go_simp
                          with_reducible rfl
                        rotate_left
                        · simp only [Act.put, List.setIfInBounds_toArray, List.set_cons_zero, List.set_cons_succ, i64_w, i32_w]
                          rfl
                        refine join_ (σ := Nat) 2 #[true, true, true, true, true, true, true, true, true, false, false] (fun s_ => [(65, .tuple #[.agg #[.int .i64 t251, .int .i64 t252, .int .i64 t253, .int .u8 t254, .int .u8 t255], .bool t256]), (13, .pointer (some ⟨s_, 0, none⟩)), (60, .tuple #[.agg #[.int .i64 t251, .int .i64 t252, .int .i64 t253, .int .u8 t254, .int .u8 t255], .bool t256]), (66, .agg #[.int .i64 t251, .int .i64 t252, .int .i64 t253, .int .u8 t254, .int .u8 t255]), (67, .bool t256)]) (fun s_ w' => (w'.cell? ⟨gb236, 0, none⟩ = some (.int .i64 x237000_2) ∧ w'.cell? ⟨gb236, 1, none⟩ = some (.int .i64 x237001_2) ∧ w'.cell? ⟨gb236, 2, none⟩ = some (.int .i64 x237002_2) ∧ w'.cell? ⟨gb236, 3, none⟩ = some (.int .u8 x237003_2) ∧ w'.cell? ⟨gb236, 4, none⟩ = some (.int .u8 x237004_2)) ∧ (w'.heap[gb236]? = some (.cells #[.int .i64 x237000_2, .int .i64 x237001_2, .int .i64 x237002_2, .int .u8 x237003_2, .int .u8 x237004_2] 25 (0, 0))) ∧ (w'.heap[gb250]? = some (.cells #[.int .i64 t244, .int .i64 t245, .int .i64 t246, .int .u8 t247, .int .u8 t248] 25 (0, 0))) ∧ (w'.heap[s_]? = some (.cells #[.int .i64 0, .int .i64 0, .int .i64 0, .int .u8 0, .int .u8 0] 25 (0, 0))) ∧ (w.heap.size ≤ s_) ∧ (w.heap.size ≤ s_) ∧ (gb236 ≠ s_) ∧ (s_ ≠ gb236) ∧ (gb250 ≠ s_) ∧ (s_ ≠ gb250) ∧ (Below w.heap.size w w')) ?_ ?_
                        rotate_left
                        · intro hCont
                          refine two_ (i := 4) (j := 8) (Ni := some 65) (Nj := some 13) #[true, true, true, true, true, false, false, false, false, false, false] #[true, true, true, true, false, false, false, false, true, false, false] rfl rfl rfl rfl (two_of HT_.out (by kernel_rfl)) (by decide) (by decide) (fun K hK => ?_) (fun K hK => ?_)
                          · skip
                            refine goes_ Try.func11 (by kernel_rfl) rfl #[.agg #[.int .i64 x237000_2, .int .i64 x237001_2, .int .i64 x237002_2, .int .u8 x237003_2, .int .u8 x237004_2], .int .u8 (bt a1 x37_2)] (by rfl) rfl rfl (by (try simp only [List.map_toArray, List.map_cons, List.map_nil]); first | done | rfl | (simp only [List.length_drop, List.length_take]; rfl)) ?_
                            with_reducible refine (text_State_Push.calls k2 x237000_2 x237001_2 x237002_2 x237003_2 x237004_2 (bt a1 x37_2) t251 t252 t253 t254 t255 t256 _ A26.out).mono ?_
                            rintro e w42 ⟨rfl, hb⟩
                            refine ⟨_, rfl, ?_⟩
                            have n0_ := Aside0.mk (blk_below (g := gb236) (o := .cells #[.int .i64 x237000_2, .int .i64 x237001_2, .int .i64 x237002_2, .int .u8 x237003_2, .int .u8 x237004_2] 25 (0, 0)) (by (with_reducible repeat (first | refine blk_drewN ?_ _ | refine blk_drew ?_ | refine blk_alloc ?_ _)); exact BK236.out) hb)
                            have n1_ := Aside0.mk (blk_below (g := gb250) (o := .cells #[.int .i64 t244, .int .i64 t245, .int .i64 t246, .int .u8 t247, .int .u8 t248] 25 (0, 0)) (by (with_reducible repeat (first | refine blk_drewN ?_ _ | refine blk_drew ?_ | refine blk_alloc ?_ _)); exact BK250.out) hb)
                            have n2_ := Aside0.mk (below_step (by repeat (first | (with_reducible first | exact HB.out | apply below_alloc | apply pw_below_drewN | apply below_drew1 | refine below_set ?_ GE236.out | refine below_set ?_ GE250.out) | exact HB.out)) hb)
                            clear BK236
                            clear BK250
                            clear HB
                            have BK236 := n0_
                            have BK250 := n1_
                            have HB := n2_
                            clear n0_ n1_ n2_
                            (try clear hb)
                            (try clear hb2)
                            (try clear hk)
                            (try clear hi)
                            refine hK.out _ _ ⟨(blk_cell BK236.out 0).trans rfl, (blk_cell BK236.out 1).trans rfl, (blk_cell BK236.out 2).trans rfl, (blk_cell BK236.out 3).trans rfl, (blk_cell BK236.out 4).trans rfl⟩ (fun hHeld => ?_)
                            clear hK K
                            refine norm_ (a' := ?_) ?_ ?_
                            rotate_left
                            · show Act.put _ (some 65) _ = _
                              simp only [Act.put, List.setIfInBounds_toArray, List.set_cons_zero, List.set_cons_succ, i64_w, i32_w]
                              rfl
                            refine pure_ (i := 5) (N := some 60) (v := ?_) (a' := ?_) #[true, true, true, true, true, true, false, false, false, false, false] rfl rfl (any_of HT_.out (by kernel_rfl)) (fun _ _ _ h => h) (Or.inl ⟨by rfl, ?_⟩) ?_ ?_
                            rotate_left
                            · intro w'
                              go_simp
                              with_reducible rfl
                            rotate_left
                            · simp only [Act.put, List.setIfInBounds_toArray, List.set_cons_zero, List.set_cons_succ, i64_w, i32_w]
                              rfl
                            refine pure_ (i := 6) (N := some 66) (v := ?_) (a' := ?_) #[true, true, true, true, true, true, true, false, false, false, false] rfl rfl (any_of HT_.out (by kernel_rfl)) (fun _ _ _ h => h) (Or.inl ⟨by rfl, ?_⟩) ?_ ?_
                            rotate_left
                            · intro w'
                              go_simp
                              with_reducible rfl
                            rotate_left
                            · simp only [Act.put, List.setIfInBounds_toArray, List.set_cons_zero, List.set_cons_succ, i64_w, i32_w]
                              rfl
                            refine pure_ (i := 7) (N := some 67) (v := ?_) (a' := ?_) #[true, true, true, true, true, true, true, true, false, false, false] rfl rfl (any_of HT_.out (by kernel_rfl)) (fun _ _ _ h => h) (Or.inl ⟨by rfl, ?_⟩) ?_ ?_
                            rotate_left
                            · intro w'
                              go_simp
                              with_reducible rfl
                            rotate_left
                            · simp only [Act.put, List.setIfInBounds_toArray, List.set_cons_zero, List.set_cons_succ, i64_w, i32_w]
                              rfl
                            refine one_ (i := 8) (N := some 13) #[true, true, true, true, true, true, true, true, true, false, false] rfl rfl (one_of HT_.out (by kernel_rfl)) (by decide) (fun K hK => ?_)
                            refine box_step ?hg (N := 13) ?hd (cs := #[.int .i64 0, .int .i64 0, .int .i64 0, .int .u8 0, .int .u8 0]) (t := 25) ?hr ?_; (case hd => rfl); (case hg => rfl); (case hr => first | (go_simp; done) | (go_simp; rfl))
                            intro gb257 hg w43 hbox hb
                            have n0_ := Aside0.mk (blk_below (g := gb236) (o := .cells #[.int .i64 x237000_2, .int .i64 x237001_2, .int .i64 x237002_2, .int .u8 x237003_2, .int .u8 x237004_2] 25 (0, 0)) (by (with_reducible repeat (first | refine blk_drewN ?_ _ | refine blk_drew ?_ | refine blk_alloc ?_ _)); exact BK236.out) hb)
                            have n1_ := Aside0.mk (blk_below (g := gb250) (o := .cells #[.int .i64 t244, .int .i64 t245, .int .i64 t246, .int .u8 t247, .int .u8 t248] 25 (0, 0)) (by (with_reducible repeat (first | refine blk_drewN ?_ _ | refine blk_drew ?_ | refine blk_alloc ?_ _)); exact BK250.out) hb)
                            have n2_ := Aside0.mk (below_step (by repeat (first | (with_reducible first | exact HB.out | apply below_alloc | apply pw_below_drewN | apply below_drew1 | refine below_set ?_ GE236.out | refine below_set ?_ GE250.out) | exact HB.out)) hb)
                            have n3_ := Aside0.mk (hbox)
                            have n4_ := Aside0.mk ((by rw [hg]; exact (below_size (by repeat (first | (with_reducible first | exact HB.out | apply below_alloc | apply pw_below_drewN | apply below_drew1 | refine below_set ?_ GE236.out | refine below_set ?_ GE250.out) | exact HB.out))) : w.heap.size ≤ gb257))
                            have n5_ := Aside0.mk ((by rw [hg]; exact (below_size (by repeat (first | (with_reducible first | exact HB.out | apply below_alloc | apply pw_below_drewN | apply below_drew1 | refine below_set ?_ GE236.out | refine below_set ?_ GE250.out) | exact HB.out))) : w.heap.size ≤ gb257))
                            have n6_ := Aside0.mk ((by rw [hg]; exact Nat.ne_of_lt (blk_lt (g := gb236) (o := .cells #[.int .i64 x237000_2, .int .i64 x237001_2, .int .i64 x237002_2, .int .u8 x237003_2, .int .u8 x237004_2] 25 (0, 0)) (by (with_reducible repeat (first | refine blk_drewN ?_ _ | refine blk_drew ?_ | refine blk_alloc ?_ _)); exact BK236.out)) : gb236 ≠ gb257))
                            have n7_ := Aside0.mk ((by rw [hg]; exact Nat.ne_of_gt (blk_lt (g := gb236) (o := .cells #[.int .i64 x237000_2, .int .i64 x237001_2, .int .i64 x237002_2, .int .u8 x237003_2, .int .u8 x237004_2] 25 (0, 0)) (by (with_reducible repeat (first | refine blk_drewN ?_ _ | refine blk_drew ?_ | refine blk_alloc ?_ _)); exact BK236.out)) : gb257 ≠ gb236))
                            have n8_ := Aside0.mk ((by rw [hg]; exact Nat.ne_of_lt (blk_lt (g := gb250) (o := .cells #[.int .i64 t244, .int .i64 t245, .int .i64 t246, .int .u8 t247, .int .u8 t248] 25 (0, 0)) (by (with_reducible repeat (first | refine blk_drewN ?_ _ | refine blk_drew ?_ | refine blk_alloc ?_ _)); exact BK250.out)) : gb250 ≠ gb257))
                            have n9_ := Aside0.mk ((by rw [hg]; exact Nat.ne_of_gt (blk_lt (g := gb250) (o := .cells #[.int .i64 t244, .int .i64 t245, .int .i64 t246, .int .u8 t247, .int .u8 t248] 25 (0, 0)) (by (with_reducible repeat (first | refine blk_drewN ?_ _ | refine blk_drew ?_ | refine blk_alloc ?_ _)); exact BK250.out)) : gb257 ≠ gb250))
                            clear BK236
                            clear BK250
                            clear HB
                            have BK236 := n0_
                            have BK250 := n1_
                            have HB := n2_
                            have BK257 := n3_
                            have GW257 := n4_
                            have GE257 := n5_
                            have NB236_257 := n6_
                            have NB257_236 := n7_
                            have NB250_257 := n8_
                            have NB257_250 := n9_
                            clear n0_ n1_ n2_ n3_ n4_ n5_ n6_ n7_ n8_ n9_
                            clear hb hbox hg
                            refine hK.out _ _ ⟨(blk_cell BK236.out 0).trans rfl, (blk_cell BK236.out 1).trans rfl, (blk_cell BK236.out 2).trans rfl, (blk_cell BK236.out 3).trans rfl, (blk_cell BK236.out 4).trans rfl⟩ (fun hHeld => ?_)
                            clear hK K
                            refine norm_ (a' := ?_) ?_ ?_
                            rotate_left
                            · show Act.put _ (some 13) _ = _
                              simp only [Act.put, List.setIfInBounds_toArray, List.set_cons_zero, List.set_cons_succ, i64_w, i32_w]
                              rfl
                            exact norm_ (by simp only [putAll, Act.put, List.setIfInBounds_toArray, List.set_cons_zero, List.set_cons_succ]) (hCont (gb257) _ ⟨hHeld, (by (with_reducible repeat (first | refine blk_drewN ?_ _ | refine blk_drew ?_ | refine blk_alloc ?_ _)); exact BK236.out), (by (with_reducible repeat (first | refine blk_drewN ?_ _ | refine blk_drew ?_ | refine blk_alloc ?_ _)); exact BK250.out), (by (with_reducible repeat (first | refine blk_drewN ?_ _ | refine blk_drew ?_ | refine blk_alloc ?_ _)); exact BK257.out), GW257.out, GE257.out, NB236_257.out, NB257_236.out, NB250_257.out, NB257_250.out, (by repeat (first | (with_reducible first | exact HB.out | apply below_alloc | apply pw_below_drewN | apply below_drew1 | refine below_set ?_ GE236.out | refine below_set ?_ GE250.out | refine below_set ?_ GE257.out) | exact HB.out))⟩)
                          · skip
                            refine box_step ?hg (N := 13) ?hd (cs := #[.int .i64 0, .int .i64 0, .int .i64 0, .int .u8 0, .int .u8 0]) (t := 25) ?hr ?_; (case hd => rfl); (case hg => rfl); (case hr => first | (go_simp; done) | (go_simp; rfl))
                            intro gb257 hg w42 hbox hb
                            have n0_ := Aside0.mk (blk_below (g := gb236) (o := .cells #[.int .i64 x237000_2, .int .i64 x237001_2, .int .i64 x237002_2, .int .u8 x237003_2, .int .u8 x237004_2] 25 (0, 0)) (by (with_reducible repeat (first | refine blk_drewN ?_ _ | refine blk_drew ?_ | refine blk_alloc ?_ _)); exact BK236.out) hb)
                            have n1_ := Aside0.mk (blk_below (g := gb250) (o := .cells #[.int .i64 t244, .int .i64 t245, .int .i64 t246, .int .u8 t247, .int .u8 t248] 25 (0, 0)) (by (with_reducible repeat (first | refine blk_drewN ?_ _ | refine blk_drew ?_ | refine blk_alloc ?_ _)); exact BK250.out) hb)
                            have n2_ := Aside0.mk (below_step (by repeat (first | (with_reducible first | exact HB.out | apply below_alloc | apply pw_below_drewN | apply below_drew1 | refine below_set ?_ GE236.out | refine below_set ?_ GE250.out) | exact HB.out)) hb)
                            have n3_ := Aside0.mk (hbox)
                            have n4_ := Aside0.mk ((by rw [hg]; exact (below_size (by repeat (first | (with_reducible first | exact HB.out | apply below_alloc | apply pw_below_drewN | apply below_drew1 | refine below_set ?_ GE236.out | refine below_set ?_ GE250.out) | exact HB.out))) : w.heap.size ≤ gb257))
                            have n5_ := Aside0.mk ((by rw [hg]; exact (below_size (by repeat (first | (with_reducible first | exact HB.out | apply below_alloc | apply pw_below_drewN | apply below_drew1 | refine below_set ?_ GE236.out | refine below_set ?_ GE250.out) | exact HB.out))) : w.heap.size ≤ gb257))
                            have n6_ := Aside0.mk ((by rw [hg]; exact Nat.ne_of_lt (blk_lt (g := gb236) (o := .cells #[.int .i64 x237000_2, .int .i64 x237001_2, .int .i64 x237002_2, .int .u8 x237003_2, .int .u8 x237004_2] 25 (0, 0)) (by (with_reducible repeat (first | refine blk_drewN ?_ _ | refine blk_drew ?_ | refine blk_alloc ?_ _)); exact BK236.out)) : gb236 ≠ gb257))
                            have n7_ := Aside0.mk ((by rw [hg]; exact Nat.ne_of_gt (blk_lt (g := gb236) (o := .cells #[.int .i64 x237000_2, .int .i64 x237001_2, .int .i64 x237002_2, .int .u8 x237003_2, .int .u8 x237004_2] 25 (0, 0)) (by (with_reducible repeat (first | refine blk_drewN ?_ _ | refine blk_drew ?_ | refine blk_alloc ?_ _)); exact BK236.out)) : gb257 ≠ gb236))
                            have n8_ := Aside0.mk ((by rw [hg]; exact Nat.ne_of_lt (blk_lt (g := gb250) (o := .cells #[.int .i64 t244, .int .i64 t245, .int .i64 t246, .int .u8 t247, .int .u8 t248] 25 (0, 0)) (by (with_reducible repeat (first | refine blk_drewN ?_ _ | refine blk_drew ?_ | refine blk_alloc ?_ _)); exact BK250.out)) : gb250 ≠ gb257))
                            have n9_ := Aside0.mk ((by rw [hg]; exact Nat.ne_of_gt (blk_lt (g := gb250) (o := .cells #[.int .i64 t244, .int .i64 t245, .int .i64 t246, .int .u8 t247, .int .u8 t248] 25 (0, 0)) (by (with_reducible repeat (first | refine blk_drewN ?_ _ | refine blk_drew ?_ | refine blk_alloc ?_ _)); exact BK250.out)) : gb257 ≠ gb250))
                            clear BK236
                            clear BK250
                            clear HB
                            have BK236 := n0_
                            have BK250 := n1_
                            have HB := n2_
                            have BK257 := n3_
                            have GW257 := n4_
                            have GE257 := n5_
                            have NB236_257 := n6_
                            have NB257_236 := n7_
                            have NB250_257 := n8_
                            have NB257_250 := n9_
                            clear n0_ n1_ n2_ n3_ n4_ n5_ n6_ n7_ n8_ n9_
                            clear hb hbox hg
                            refine hK.out _ _ ⟨(blk_cell BK236.out 0).trans rfl, (blk_cell BK236.out 1).trans rfl, (blk_cell BK236.out 2).trans rfl, (blk_cell BK236.out 3).trans rfl, (blk_cell BK236.out 4).trans rfl⟩ (fun hHeld => ?_)
                            clear hK K
                            refine norm_ (a' := ?_) ?_ ?_
                            rotate_left
                            · show Act.put _ (some 13) _ = _
                              simp only [Act.put, List.setIfInBounds_toArray, List.set_cons_zero, List.set_cons_succ, i64_w, i32_w]
                              rfl
                            refine one_ (i := 4) (N := some 65) #[true, true, true, true, true, false, false, false, true, false, false] rfl rfl (one_of HT_.out (by kernel_rfl)) (by decide) (fun K hK => ?_)
                            refine goes_ Try.func11 (by kernel_rfl) rfl #[.agg #[.int .i64 x237000_2, .int .i64 x237001_2, .int .i64 x237002_2, .int .u8 x237003_2, .int .u8 x237004_2], .int .u8 (bt a1 x37_2)] (by rfl) rfl rfl (by (try simp only [List.map_toArray, List.map_cons, List.map_nil]); first | done | rfl | (simp only [List.length_drop, List.length_take]; rfl)) ?_
                            with_reducible refine (text_State_Push.calls k2 x237000_2 x237001_2 x237002_2 x237003_2 x237004_2 (bt a1 x37_2) t251 t252 t253 t254 t255 t256 _ A26.out).mono ?_
                            rintro e w43 ⟨rfl, hb⟩
                            refine ⟨_, rfl, ?_⟩
                            have n0_ := Aside0.mk (blk_below (g := gb236) (o := .cells #[.int .i64 x237000_2, .int .i64 x237001_2, .int .i64 x237002_2, .int .u8 x237003_2, .int .u8 x237004_2] 25 (0, 0)) (by (with_reducible repeat (first | refine blk_drewN ?_ _ | refine blk_drew ?_ | refine blk_alloc ?_ _)); exact BK236.out) hb)
                            have n1_ := Aside0.mk (blk_below (g := gb250) (o := .cells #[.int .i64 t244, .int .i64 t245, .int .i64 t246, .int .u8 t247, .int .u8 t248] 25 (0, 0)) (by (with_reducible repeat (first | refine blk_drewN ?_ _ | refine blk_drew ?_ | refine blk_alloc ?_ _)); exact BK250.out) hb)
                            have n2_ := Aside0.mk (blk_below (g := gb257) (o := .cells #[.int .i64 0, .int .i64 0, .int .i64 0, .int .u8 0, .int .u8 0] 25 (0, 0)) (by (with_reducible repeat (first | refine blk_drewN ?_ _ | refine blk_drew ?_ | refine blk_alloc ?_ _)); exact BK257.out) hb)
                            have n3_ := Aside0.mk (below_step (by repeat (first | (with_reducible first | exact HB.out | apply below_alloc | apply pw_below_drewN | apply below_drew1 | refine below_set ?_ GE236.out | refine below_set ?_ GE250.out | refine below_set ?_ GE257.out) | exact HB.out)) hb)
                            clear BK236
                            clear BK250
                            clear BK257
                            clear HB
                            have BK236 := n0_
                            have BK250 := n1_
                            have BK257 := n2_
                            have HB := n3_
                            clear n0_ n1_ n2_ n3_
                            (try clear hb)
                            (try clear hb2)
                            (try clear hk)
                            (try clear hi)
                            refine hK.out _ _ ⟨(blk_cell BK236.out 0).trans rfl, (blk_cell BK236.out 1).trans rfl, (blk_cell BK236.out 2).trans rfl, (blk_cell BK236.out 3).trans rfl, (blk_cell BK236.out 4).trans rfl⟩ (fun hHeld => ?_)
                            clear hK K
                            refine norm_ (a' := ?_) ?_ ?_
                            rotate_left
                            · show Act.put _ (some 65) _ = _
                              simp only [Act.put, List.setIfInBounds_toArray, List.set_cons_zero, List.set_cons_succ, i64_w, i32_w]
                              rfl
                            refine pure_ (i := 5) (N := some 60) (v := ?_) (a' := ?_) #[true, true, true, true, true, true, false, false, true, false, false] rfl rfl (any_of HT_.out (by kernel_rfl)) (fun _ _ _ h => h) (Or.inl ⟨by rfl, ?_⟩) ?_ ?_
                            rotate_left
                            · intro w'
                              go_simp
                              with_reducible rfl
                            rotate_left
                            · simp only [Act.put, List.setIfInBounds_toArray, List.set_cons_zero, List.set_cons_succ, i64_w, i32_w]
                              rfl
                            refine pure_ (i := 6) (N := some 66) (v := ?_) (a' := ?_) #[true, true, true, true, true, true, true, false, true, false, false] rfl rfl (any_of HT_.out (by kernel_rfl)) (fun _ _ _ h => h) (Or.inl ⟨by rfl, ?_⟩) ?_ ?_
                            rotate_left
                            · intro w'
                              go_simp
                              with_reducible rfl
                            rotate_left
                            · simp only [Act.put, List.setIfInBounds_toArray, List.set_cons_zero, List.set_cons_succ, i64_w, i32_w]
                              rfl
                            refine pure_ (i := 7) (N := some 67) (v := ?_) (a' := ?_) #[true, true, true, true, true, true, true, true, true, false, false] rfl rfl (any_of HT_.out (by kernel_rfl)) (fun _ _ _ h => h) (Or.inl ⟨by rfl, ?_⟩) ?_ ?_
                            rotate_left
                            · intro w'
                              go_simp
                              with_reducible rfl
                            rotate_left
                            · simp only [Act.put, List.setIfInBounds_toArray, List.set_cons_zero, List.set_cons_succ, i64_w, i32_w]
                              rfl
                            exact norm_ (by simp only [putAll, Act.put, List.setIfInBounds_toArray, List.set_cons_zero, List.set_cons_succ]) (hCont (gb257) _ ⟨hHeld, (by (with_reducible repeat (first | refine blk_drewN ?_ _ | refine blk_drew ?_ | refine blk_alloc ?_ _)); exact BK236.out), (by (with_reducible repeat (first | refine blk_drewN ?_ _ | refine blk_drew ?_ | refine blk_alloc ?_ _)); exact BK250.out), (by (with_reducible repeat (first | refine blk_drewN ?_ _ | refine blk_drew ?_ | refine blk_alloc ?_ _)); exact BK257.out), GW257.out, GE257.out, NB236_257.out, NB257_236.out, NB250_257.out, NB257_250.out, (by repeat (first | (with_reducible first | exact HB.out | apply below_alloc | apply pw_below_drewN | apply below_drew1 | refine below_set ?_ GE236.out | refine below_set ?_ GE250.out | refine below_set ?_ GE257.out) | exact HB.out))⟩)
                        rintro gb257 w44 ⟨hS_, h0_, h1_, h2_, h3_, h4_, h5_, h6_, h7_, h8_, h9_⟩
                        have n0_ : Aside0 (w44.heap[gb236]? = some (.cells #[.int .i64 x237000_2, .int .i64 x237001_2, .int .i64 x237002_2, .int .u8 x237003_2, .int .u8 x237004_2] 25 (0, 0))) := ⟨h0_⟩
                        have n1_ : Aside0 (w44.heap[gb250]? = some (.cells #[.int .i64 t244, .int .i64 t245, .int .i64 t246, .int .u8 t247, .int .u8 t248] 25 (0, 0))) := ⟨h1_⟩
                        have n2_ : Aside0 (w44.heap[gb257]? = some (.cells #[.int .i64 0, .int .i64 0, .int .i64 0, .int .u8 0, .int .u8 0] 25 (0, 0))) := ⟨h2_⟩
                        have n3_ : Aside0 (w.heap.size ≤ gb257) := ⟨h3_⟩
                        have n4_ : Aside0 (w.heap.size ≤ gb257) := ⟨h4_⟩
                        have n5_ : Aside0 (gb236 ≠ gb257) := ⟨h5_⟩
                        have n6_ : Aside0 (gb257 ≠ gb236) := ⟨h6_⟩
                        have n7_ : Aside0 (gb250 ≠ gb257) := ⟨h7_⟩
                        have n8_ : Aside0 (gb257 ≠ gb250) := ⟨h8_⟩
                        have n9_ : Aside0 (Below w.heap.size w w44) := ⟨h9_⟩
                        clear BK236
                        clear BK250
                        clear HB
                        clear h0_ h1_ h2_ h3_ h4_ h5_ h6_ h7_ h8_ h9_
                        have BK236 := n0_
                        have BK250 := n1_
                        have BK257 := n2_
                        have GW257 := n3_
                        have GE257 := n4_
                        have NB236_257 := n5_
                        have NB257_236 := n6_
                        have NB250_257 := n7_
                        have NB257_250 := n8_
                        have HB := n9_
                        clear n0_ n1_ n2_ n3_ n4_ n5_ n6_ n7_ n8_ n9_
                        have hHeld : w44.cell? ⟨gb236, 0, none⟩ = some (.int .i64 x237000_2) ∧ w44.cell? ⟨gb236, 1, none⟩ = some (.int .i64 x237001_2) ∧ w44.cell? ⟨gb236, 2, none⟩ = some (.int .i64 x237002_2) ∧ w44.cell? ⟨gb236, 3, none⟩ = some (.int .u8 x237003_2) ∧ w44.cell? ⟨gb236, 4, none⟩ = some (.int .u8 x237004_2) := hS_
                        refine norm_ (a' := ?_) ?_ ?_
                        rotate_left
                        · simp only [putAll, Act.put, List.setIfInBounds_toArray, List.set_cons_zero, List.set_cons_succ]
                          rfl
                        refine one_ (i := 9) (N := none) #[true, true, true, true, true, true, true, true, true, true, false] rfl rfl (one_of HT_.out (by kernel_rfl)) (by decide) (fun K hK => ?_)
                        have hs45 : w44.cell? ⟨gb257, 0, none⟩ = some (.int .i64 0) := (blk_cell BK257.out 0).trans rfl
                        have hfs45 := blk_frozen BK257.out 0
                        have hns45_0 := NB236_257.out
                        have hns45_1 := NB250_257.out
                        have hms45_0 := NB257_236.out
                        have hms45_1 := NB257_250.out
                        have hs46 : w44.cell? ⟨gb257, 1, none⟩ = some (.int .i64 0) := (blk_cell BK257.out 1).trans rfl
                        have hfs46 := blk_frozen BK257.out 1
                        have hns46_0 := NB236_257.out
                        have hns46_1 := NB250_257.out
                        have hms46_0 := NB257_236.out
                        have hms46_1 := NB257_250.out
                        have hs47 : w44.cell? ⟨gb257, 2, none⟩ = some (.int .i64 0) := (blk_cell BK257.out 2).trans rfl
                        have hfs47 := blk_frozen BK257.out 2
                        have hns47_0 := NB236_257.out
                        have hns47_1 := NB250_257.out
                        have hms47_0 := NB257_236.out
                        have hms47_1 := NB257_250.out
                        have hs48 : w44.cell? ⟨gb257, 3, none⟩ = some (.int .u8 0) := (blk_cell BK257.out 3).trans rfl
                        have hfs48 := blk_frozen BK257.out 3
                        have hns48_0 := NB236_257.out
                        have hns48_1 := NB250_257.out
                        have hms48_0 := NB257_236.out
                        have hms48_1 := NB257_250.out
                        have hs49 : w44.cell? ⟨gb257, 4, none⟩ = some (.int .u8 0) := (blk_cell BK257.out 4).trans rfl
                        have hfs49 := blk_frozen BK257.out 4
                        have hns49_0 := NB236_257.out
                        have hns49_1 := NB250_257.out
                        have hms49_0 := NB257_236.out
                        have hms49_1 := NB257_250.out
                        refine skip_ (w1 := ?_) (by rfl) rfl ?_ ?_
                        rotate_left
                        · go_simp
                          rfl
                        refine hK.out _ _ ⟨((cell_far (p := ⟨gb257, _, none⟩) NB236_257.out _).trans (((cell_far (p := ⟨gb257, _, none⟩) NB236_257.out _).trans (((cell_far (p := ⟨gb257, _, none⟩) NB236_257.out _).trans (((cell_far (p := ⟨gb257, _, none⟩) NB236_257.out _).trans (((cell_far (p := ⟨gb257, _, none⟩) NB236_257.out _).trans (hHeld.1)))))))))), ((cell_far (p := ⟨gb257, _, none⟩) NB236_257.out _).trans (((cell_far (p := ⟨gb257, _, none⟩) NB236_257.out _).trans (((cell_far (p := ⟨gb257, _, none⟩) NB236_257.out _).trans (((cell_far (p := ⟨gb257, _, none⟩) NB236_257.out _).trans (((cell_far (p := ⟨gb257, _, none⟩) NB236_257.out _).trans (hHeld.2.1)))))))))), ((cell_far (p := ⟨gb257, _, none⟩) NB236_257.out _).trans (((cell_far (p := ⟨gb257, _, none⟩) NB236_257.out _).trans (((cell_far (p := ⟨gb257, _, none⟩) NB236_257.out _).trans (((cell_far (p := ⟨gb257, _, none⟩) NB236_257.out _).trans (((cell_far (p := ⟨gb257, _, none⟩) NB236_257.out _).trans (hHeld.2.2.1)))))))))), ((cell_far (p := ⟨gb257, _, none⟩) NB236_257.out _).trans (((cell_far (p := ⟨gb257, _, none⟩) NB236_257.out _).trans (((cell_far (p := ⟨gb257, _, none⟩) NB236_257.out _).trans (((cell_far (p := ⟨gb257, _, none⟩) NB236_257.out _).trans (((cell_far (p := ⟨gb257, _, none⟩) NB236_257.out _).trans (hHeld.2.2.2.1)))))))))), ((cell_far (p := ⟨gb257, _, none⟩) NB236_257.out _).trans (((cell_far (p := ⟨gb257, _, none⟩) NB236_257.out _).trans (((cell_far (p := ⟨gb257, _, none⟩) NB236_257.out _).trans (((cell_far (p := ⟨gb257, _, none⟩) NB236_257.out _).trans (((cell_far (p := ⟨gb257, _, none⟩) NB236_257.out _).trans (hHeld.2.2.2.2))))))))))⟩ (fun hHeld => ?_)
                        clear hK K
                        refine pure_ (i := 10) (N := some 14) (v := ?_) (a' := ?_) #[true, true, true, true, true, true, true, true, true, true, true] rfl rfl (any_of HT_.out (by kernel_rfl)) (fun _ _ _ h => h) (Or.inl ⟨by rfl, ?_⟩) ?_ ?_
                        rotate_left
                        · intro w'
                          go_simp
                          with_reducible rfl
                        rotate_left
                        · simp only [Act.put, List.setIfInBounds_toArray, List.set_cons_zero, List.set_cons_succ, i64_w, i32_w]
                          rfl
                        refine done_ (done_of HT_.out (by kernel_rfl)) ?_
                        have hnb50 := NB250_236.out
                        have hnc50 := NB236_250.out
                        have hnb51 := NB250_257.out
                        have hnc51 := NB257_250.out
                        have hcz52_0 : w44.cell? ⟨gb250, 0, none⟩ = some (.int .i64 t244) := (blk_cell BK250.out 0).trans rfl
                        have hcz52_1 : w44.cell? ⟨gb250, 1, none⟩ = some (.int .i64 t245) := (blk_cell BK250.out 1).trans rfl
                        have hcz52_2 : w44.cell? ⟨gb250, 2, none⟩ = some (.int .i64 t246) := (blk_cell BK250.out 2).trans rfl
                        have hcz52_3 : w44.cell? ⟨gb250, 3, none⟩ = some (.int .u8 t247) := (blk_cell BK250.out 3).trans rfl
                        have hcz52_4 : w44.cell? ⟨gb250, 4, none⟩ = some (.int .u8 t248) := (blk_cell BK250.out 4).trans rfl
                        have hfz52_0 := blk_frozen BK250.out 0
                        have hfz52_1 := blk_frozen BK250.out 1
                        have hfz52_2 := blk_frozen BK250.out 2
                        have hfz52_3 := blk_frozen BK250.out 3
                        have hfz52_4 := blk_frozen BK250.out 4
                        have hnb53 := NB236_257.out
                        have hnc53 := NB257_236.out
                        have hcz54_0 : w44.cell? ⟨gb236, 0, none⟩ = some (.int .i64 x237000_2) := (blk_cell BK236.out 0).trans rfl
                        have hcz54_1 : w44.cell? ⟨gb236, 1, none⟩ = some (.int .i64 x237001_2) := (blk_cell BK236.out 1).trans rfl
                        have hcz54_2 : w44.cell? ⟨gb236, 2, none⟩ = some (.int .i64 x237002_2) := (blk_cell BK236.out 2).trans rfl
                        have hcz54_3 : w44.cell? ⟨gb236, 3, none⟩ = some (.int .u8 x237003_2) := (blk_cell BK236.out 3).trans rfl
                        have hcz54_4 : w44.cell? ⟨gb236, 4, none⟩ = some (.int .u8 x237004_2) := (blk_cell BK236.out 4).trans rfl
                        have hfz54_0 := blk_frozen BK236.out 0
                        have hfz54_1 := blk_frozen BK236.out 1
                        have hfz54_2 := blk_frozen BK236.out 2
                        have hfz54_3 := blk_frozen BK236.out 3
                        have hfz54_4 := blk_frozen BK236.out 4
                        try go_wp2
                        go_roundg k2
                        case measure => have := HJ3.out; have := HK2.out; omega
                        case rel => exact ⟨(t249), (wrap64 (x37_2 + 1)), (t244), (t245), (t246), (t247), (t248), (by first | rfl | (simp; done) | (simp [*]; done)), (by first | rfl | (simp; done) | (simp [*]; done)), H', ⟨by have := HJ3.out; have := HK2.out; omega⟩, ⟨by (with_reducible repeat (first | refine blk_drewN ?_ _ | refine blk_drew ?_ | refine blk_alloc ?_ _)); refine blk_put (cs := #[.int .i64 t244, .int .i64 t245, .int .i64 t246, .int .u8 t247, .int .u8 x237004_2]) ?_ 4 _ rfl; (with_reducible repeat (first | refine blk_drewN ?_ _ | refine blk_drew ?_ | refine blk_alloc ?_ _)); refine blk_put (cs := #[.int .i64 t244, .int .i64 t245, .int .i64 t246, .int .u8 x237003_2, .int .u8 x237004_2]) ?_ 3 _ rfl; (with_reducible repeat (first | refine blk_drewN ?_ _ | refine blk_drew ?_ | refine blk_alloc ?_ _)); refine blk_put (cs := #[.int .i64 t244, .int .i64 t245, .int .i64 x237002_2, .int .u8 x237003_2, .int .u8 x237004_2]) ?_ 2 _ rfl; (with_reducible repeat (first | refine blk_drewN ?_ _ | refine blk_drew ?_ | refine blk_alloc ?_ _)); refine blk_put (cs := #[.int .i64 t244, .int .i64 x237001_2, .int .i64 x237002_2, .int .u8 x237003_2, .int .u8 x237004_2]) ?_ 1 _ rfl; (with_reducible repeat (first | refine blk_drewN ?_ _ | refine blk_drew ?_ | refine blk_alloc ?_ _)); refine blk_put (cs := #[.int .i64 x237000_2, .int .i64 x237001_2, .int .i64 x237002_2, .int .u8 x237003_2, .int .u8 x237004_2]) ?_ 0 _ rfl; (with_reducible repeat (first | refine blk_drewN ?_ _ | refine blk_drew ?_ | refine blk_alloc ?_ _)); refine blk_far ?_ NB236_257.out _; (with_reducible repeat (first | refine blk_drewN ?_ _ | refine blk_drew ?_ | refine blk_alloc ?_ _)); refine blk_far ?_ NB236_257.out _; (with_reducible repeat (first | refine blk_drewN ?_ _ | refine blk_drew ?_ | refine blk_alloc ?_ _)); refine blk_far ?_ NB236_257.out _; (with_reducible repeat (first | refine blk_drewN ?_ _ | refine blk_drew ?_ | refine blk_alloc ?_ _)); refine blk_far ?_ NB236_257.out _; (with_reducible repeat (first | refine blk_drewN ?_ _ | refine blk_drew ?_ | refine blk_alloc ?_ _)); refine blk_far ?_ NB236_257.out _; (with_reducible repeat (first | refine blk_drewN ?_ _ | refine blk_drew ?_ | refine blk_alloc ?_ _)); exact BK236.out⟩, ⟨by repeat (first | (with_reducible first | exact HB.out | apply below_alloc | apply pw_below_drewN | apply below_drew1 | refine below_set ?_ GE236.out | refine below_set ?_ GE250.out | refine below_set ?_ GE257.out) | exact HB.out)⟩⟩
                  · rw [if_neg c22] at H
                    exact absurd H (by simp)
                · rw [if_neg c21] at H
                  exact absurd H (by simp)
              · replace c19 := Bool.eq_false_iff.mpr c19
                subst c19
                have H1 : (if t237 ≥ 0 then (some (decide (t237 ≤ x37_2))) else (none)) = some r := by rw [if_neg (show ¬ (false = true) by decide)] at H; exact H
                clear H
                have H := H1
                clear H1
                by_cases c55 : t237 ≥ 0
                · rw [if_pos c55] at H
                  have c55b0 : decide (0 ≤ t237) = true := decide_eq_true c55
                  clear c55
                  obtain rfl := Option.some.inj H
                  go_wp2
                  go_ret
                  exact ⟨by first | rfl | (simp [errW_none, errW_some] <;> rfl) | (simp [*, errW_none, errW_some] <;> rfl), by repeat (first | (with_reducible first | exact HB.out | apply below_alloc | apply pw_below_drewN | apply below_drew1 | refine below_set ?_ GE236.out) | exact HB.out)⟩
                · rw [if_neg c55] at H
                  exact absurd H (by simp)
            · rw [if_neg c18] at H
              have c18b0 : decide (x37_2 < (a1.size : Int)) = false := decide_eq_false c18
              clear c18
              obtain rfl := Option.some.inj H
              go_wp2
              go_ret
              exact ⟨by first | rfl | (simp [errW_none, errW_some] <;> rfl) | (simp [*, errW_none, errW_some] <;> rfl), by repeat (first | (with_reducible first | exact HB.out | apply below_alloc | apply pw_below_drewN | apply below_drew1 | refine below_set ?_ GE236.out) | exact HB.out)⟩

/-- THE ONE PURE STATEMENT of gantletlaw14_TextPure: yours. -/
def gantletlaw14_TextPure.Pure : Prop := ∀ (a0 : Int) (a1 : ByteArray) (a2 : Int), (Lit.int .i64 a0).wf = true → a1.size ≤ 140737488351232 → (Lit.int .u8 a2).wf = true → ∃ k, gantletlaw14_TextPure.f k a0 a1 a2 = some true
theorem gantletlaw14_TextPure.walk (P : gantletlaw14_TextPure.Pure) (a0 : Int) (a1 : ByteArray) (a2 : Int) (w : World) (w0 : (Lit.int .i64 a0).wf = true) (w1 : a1.size ≤ 140737488351232) (w2 : (Lit.int .u8 a2).wf = true) :
    Calls Try.prog 7 #[.int .i64 a0, .string a1, .int .u8 a2] w fun e w' => e = .returned (.bool true) ∧ Below w.heap.size w w' := by
  obtain ⟨k, h⟩ := P a0 a1 a2 w0 w1 w2
  refine (gantletlaw14_TextPure.calls k a0 a1 a2 true w h).mono ?_
  rintro e w' ⟨rfl, hd⟩
  exact ⟨rfl, hd⟩

end Go.Proofs.Ytjookjdpfbflkaa.PA
