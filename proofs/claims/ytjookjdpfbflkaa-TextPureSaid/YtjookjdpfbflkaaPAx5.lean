-- Written by a program of this session (print2, a turned print): not PRINTED BY print.sh
import Derived.Test.YtjookjdpfbflkaaPAx0
import Derived.Test.YtjookjdpfbflkaaPAx3
import Derived.Test.YtjookjdpfbflkaaPAx4
namespace Go.Proofs.Ytjookjdpfbflkaa.PA
open Go.RowKit Go.Proofs.YtjookjdpfbflkaaW.PrintWords Go.Proofs.YtjookjdpfbflkaaW.PrintLast Go.Proofs.YtjookjdpfbflkaaW.PrintMore
attribute [local go_sem] max2_int min2_int max_two min_two max_three min_three max_four min_four   -- for this text's walks alone
set_option linter.unusedVariables false
set_option linter.unusedSimpArgs false

/-! ### gantletref14_Can: function 14 -/
mutual
def gantletref14_Can.l0 : Nat → Int → ByteArray → Int → Int → Option (Bool)
  | 0, _, _, _, _ => none
  | k + 1, x1, x2, x7, x8 => if x8 < 4 then (gantletref14_Can.j1 k x1 x2 x7 x8 (decide ((wrap64 ((x2.size : Int) + x8)) ≤ x1))) else (gantletref14_Can.j1 k x1 x2 x7 x8 false)
def gantletref14_Can.j1 : Nat → Int → ByteArray → Int → Int → Bool → Option (Bool)
  | 0, _, _, _, _, _ => none
  | k + 1, x1, x2, x7, x8, x36 => if x36 = true then (gantletref14_Can.l1 k x1 x2 x7 x8 0) else (some false)
def gantletref14_Can.l1 : Nat → Int → ByteArray → Int → Int → Int → Option (Bool)
  | 0, _, _, _, _, _ => none
  | k + 1, x1, x2, x7, x8, x9 => if x9 < 2 then (if 0 ≤ x7 then (if x7 ≤ (x2.size : Int) then (gantletref14_Can.l2 k x1 x2 x7 x8 x9 (x2.extract (x7 : Int).toNat x2.size) 0) else (none)) else (none)) else (gantletref14_Can.l0 k x1 x2 x7 (wrap64 (x8 + 1)))
def gantletref14_Can.l2 : Nat → Int → ByteArray → Int → Int → Int → ByteArray → Int → Option (Bool)
  | 0, _, _, _, _, _, _, _ => none
  | k + 1, x1, x2, x7, x8, x9, x10, x11 => if x11 < x8 then ((some (([(wrap64 (128 + (wrap64 (63 * x9)))) % 256] : List Int) : List Int)).bind fun y176 => (if x10.size + (strOfNums y176).size ≤ 9223372036854775807 then (gantletref14_Can.l2 k x1 x2 x7 x8 x9 (x10 ++ (strOfNums y176)) (wrap64 (x11 + 1))) else (none))) else ((gantletref14_char.f k x10 0).bind fun t179 => (if t179 = (x10.size : Int) then (some true) else (gantletref14_Can.l1 k x1 x2 x7 x8 (wrap64 (x9 + 1)))))
end
def gantletref14_Can.f (k : Nat) (a0 : Int) (a1 : Int) (a2 : ByteArray) : Option (Bool) := if a1 < 0 then (some false) else (if a0 = 12 then ((gantletref14_last.f k a2).bind fun t175 => (if t175 < 0 then (some false) else (if t175 = (a2.size : Int) then (some true) else (gantletref14_Can.l0 k a1 a2 t175 1)))) else ((gantletref14_Check.f k a0 a2).bind fun t174 => (some t174)))
theorem gantletref14_Can.mono_l : ∀ k, (∀ y0 y1 y2 y3, LeO (gantletref14_Can.l0 k y0 y1 y2 y3) (gantletref14_Can.l0 (k + 1) y0 y1 y2 y3)) ∧ (∀ y0 y1 y2 y3 y4, LeO (gantletref14_Can.j1 k y0 y1 y2 y3 y4) (gantletref14_Can.j1 (k + 1) y0 y1 y2 y3 y4)) ∧ (∀ y0 y1 y2 y3 y4, LeO (gantletref14_Can.l1 k y0 y1 y2 y3 y4) (gantletref14_Can.l1 (k + 1) y0 y1 y2 y3 y4)) ∧ (∀ y0 y1 y2 y3 y4 y5 y6, LeO (gantletref14_Can.l2 k y0 y1 y2 y3 y4 y5 y6) (gantletref14_Can.l2 (k + 1) y0 y1 y2 y3 y4 y5 y6))
  | 0 => ⟨fun _ _ _ _ r h => by simp [gantletref14_Can.l0] at h, fun _ _ _ _ _ r h => by simp [gantletref14_Can.j1] at h, fun _ _ _ _ _ r h => by simp [gantletref14_Can.l1] at h, fun _ _ _ _ _ _ _ r h => by simp [gantletref14_Can.l2] at h⟩
  | k + 1 => by
    obtain ⟨ih0, ih1, ih2, ih3⟩ := gantletref14_Can.mono_l k
    refine ⟨?_, ?_, ?_, ?_⟩
    · intro y0 y1 y2 y3
      unfold gantletref14_Can.l0
      repeat' first
      | (with_reducible exact ih0 _ _ _ _)
      | (with_reducible exact ih1 _ _ _ _ _)
      | (with_reducible exact ih2 _ _ _ _ _)
      | (with_reducible exact ih3 _ _ _ _ _ _ _)
      | (with_reducible exact gantletref14_Check.mono _ _ _)
      | (with_reducible exact gantletref14_char.mono _ _ _)
      | (with_reducible exact gantletref14_last.mono _ _)
      | (with_reducible exact LeO.refl _)
      | (with_reducible exact LeO.none _)
      | (with_reducible refine LeO.ite ?_ ?_)
      | (with_reducible refine LeO.bind ?_ (fun _ => ?_))
      | exact ih0 _ _ _ _
      | exact ih1 _ _ _ _ _
      | exact ih2 _ _ _ _ _
      | exact ih3 _ _ _ _ _ _ _
      | exact gantletref14_Check.mono _ _ _
      | exact gantletref14_char.mono _ _ _
      | exact gantletref14_last.mono _ _
      | exact LeO.none _
      | refine LeO.ite ?_ ?_
      | refine LeO.bind ?_ (fun _ => ?_)
    · intro y0 y1 y2 y3 y4
      unfold gantletref14_Can.j1
      repeat' first
      | (with_reducible exact ih0 _ _ _ _)
      | (with_reducible exact ih1 _ _ _ _ _)
      | (with_reducible exact ih2 _ _ _ _ _)
      | (with_reducible exact ih3 _ _ _ _ _ _ _)
      | (with_reducible exact gantletref14_Check.mono _ _ _)
      | (with_reducible exact gantletref14_char.mono _ _ _)
      | (with_reducible exact gantletref14_last.mono _ _)
      | (with_reducible exact LeO.refl _)
      | (with_reducible exact LeO.none _)
      | (with_reducible refine LeO.ite ?_ ?_)
      | (with_reducible refine LeO.bind ?_ (fun _ => ?_))
      | exact ih0 _ _ _ _
      | exact ih1 _ _ _ _ _
      | exact ih2 _ _ _ _ _
      | exact ih3 _ _ _ _ _ _ _
      | exact gantletref14_Check.mono _ _ _
      | exact gantletref14_char.mono _ _ _
      | exact gantletref14_last.mono _ _
      | exact LeO.none _
      | refine LeO.ite ?_ ?_
      | refine LeO.bind ?_ (fun _ => ?_)
    · intro y0 y1 y2 y3 y4
      unfold gantletref14_Can.l1
      repeat' first
      | (with_reducible exact ih0 _ _ _ _)
      | (with_reducible exact ih1 _ _ _ _ _)
      | (with_reducible exact ih2 _ _ _ _ _)
      | (with_reducible exact ih3 _ _ _ _ _ _ _)
      | (with_reducible exact gantletref14_Check.mono _ _ _)
      | (with_reducible exact gantletref14_char.mono _ _ _)
      | (with_reducible exact gantletref14_last.mono _ _)
      | (with_reducible exact LeO.refl _)
      | (with_reducible exact LeO.none _)
      | (with_reducible refine LeO.ite ?_ ?_)
      | (with_reducible refine LeO.bind ?_ (fun _ => ?_))
      | exact ih0 _ _ _ _
      | exact ih1 _ _ _ _ _
      | exact ih2 _ _ _ _ _
      | exact ih3 _ _ _ _ _ _ _
      | exact gantletref14_Check.mono _ _ _
      | exact gantletref14_char.mono _ _ _
      | exact gantletref14_last.mono _ _
      | exact LeO.none _
      | refine LeO.ite ?_ ?_
      | refine LeO.bind ?_ (fun _ => ?_)
    · intro y0 y1 y2 y3 y4 y5 y6
      unfold gantletref14_Can.l2
      repeat' first
      | (with_reducible exact ih0 _ _ _ _)
      | (with_reducible exact ih1 _ _ _ _ _)
      | (with_reducible exact ih2 _ _ _ _ _)
      | (with_reducible exact ih3 _ _ _ _ _ _ _)
      | (with_reducible exact gantletref14_Check.mono _ _ _)
      | (with_reducible exact gantletref14_char.mono _ _ _)
      | (with_reducible exact gantletref14_last.mono _ _)
      | (with_reducible exact LeO.refl _)
      | (with_reducible exact LeO.none _)
      | (with_reducible refine LeO.ite ?_ ?_)
      | (with_reducible refine LeO.bind ?_ (fun _ => ?_))
      | exact ih0 _ _ _ _
      | exact ih1 _ _ _ _ _
      | exact ih2 _ _ _ _ _
      | exact ih3 _ _ _ _ _ _ _
      | exact gantletref14_Check.mono _ _ _
      | exact gantletref14_char.mono _ _ _
      | exact gantletref14_last.mono _ _
      | exact LeO.none _
      | refine LeO.ite ?_ ?_
      | refine LeO.bind ?_ (fun _ => ?_)
theorem gantletref14_Can.mono : ∀ a0 a1 a2 k, LeO (gantletref14_Can.f k a0 a1 a2) (gantletref14_Can.f (k + 1) a0 a1 a2) := by
  intro a0 a1 a2 k
  obtain ⟨ih0, ih1, ih2, ih3⟩ := gantletref14_Can.mono_l k
  unfold gantletref14_Can.f
  repeat' first
      | (with_reducible exact ih0 _ _ _ _)
      | (with_reducible exact ih1 _ _ _ _ _)
      | (with_reducible exact ih2 _ _ _ _ _)
      | (with_reducible exact ih3 _ _ _ _ _ _ _)
      | (with_reducible exact gantletref14_Check.mono _ _ _)
      | (with_reducible exact gantletref14_char.mono _ _ _)
      | (with_reducible exact gantletref14_last.mono _ _)
      | (with_reducible exact LeO.refl _)
      | (with_reducible exact LeO.none _)
      | (with_reducible refine LeO.ite ?_ ?_)
      | (with_reducible refine LeO.bind ?_ (fun _ => ?_))
      | exact ih0 _ _ _ _
      | exact ih1 _ _ _ _ _
      | exact ih2 _ _ _ _ _
      | exact ih3 _ _ _ _ _ _ _
      | exact gantletref14_Check.mono _ _ _
      | exact gantletref14_char.mono _ _ _
      | exact gantletref14_last.mono _ _
      | exact LeO.none _
      | refine LeO.ite ?_ ?_
      | refine LeO.bind ?_ (fun _ => ?_)
set_option maxHeartbeats 8000000 in
set_option maxRecDepth 100000 in
theorem gantletref14_Can.calls (k : Nat) (a0 : Int) (a1 : Int) (a2 : ByteArray) (r : Bool) (w : World) (h : gantletref14_Can.f k a0 a1 a2 = some r) :
    Calls Try.prog 14 #[.int .i64 a0, .int .i64 a1, .string a2] w fun e w' => e = .returned (.bool r) ∧ Below w.heap.size w w' := by
  have HB := Aside0.mk (Below.refl w.heap.size w)
  have H : (if a1 < 0 then (some false) else (if a0 = 12 then ((gantletref14_last.f k a2).bind fun t175 => (if t175 < 0 then (some false) else (if t175 = (a2.size : Int) then (some true) else (gantletref14_Can.l0 k a1 a2 t175 1)))) else ((gantletref14_Check.f k a0 a2).bind fun t174 => (some t174)))) = some r := h
  clear h
  by_cases c4 : a1 < 0
  · rw [if_pos c4] at H
    have c4b0 : decide (a1 < 0) = true := decide_eq_true c4
    clear c4
    obtain rfl := Option.some.inj H
    go_enter Try.func14, Try.ntmps14
    go_wp2
    go_ret
    exact ⟨by first | rfl | (simp [errW_none, errW_some] <;> rfl) | (simp [*, errW_none, errW_some] <;> rfl), by repeat (first | (with_reducible first | exact HB.out | apply below_alloc | apply pw_below_drewN | apply below_drew1) | exact HB.out)⟩
  · rw [if_neg c4] at H
    have c4b0 : decide (a1 < 0) = false := decide_eq_false c4
    clear c4
    by_cases c5 : a0 = 12
    · rw [if_pos c5] at H
      have c5b0 : (a0 == 12) = true := beq_iff_eq.mpr c5
      have c5b1 : (a0 != 12) = false := bne_eq_false_iff_eq.mpr c5
      clear c5
      replace H := Option.bind_eq_some_iff.mp H
      obtain ⟨t175, A60, H⟩ := H
      replace H : (if t175 < 0 then (some false) else (if t175 = (a2.size : Int) then (some true) else (gantletref14_Can.l0 k a1 a2 t175 1))) = some r := H
      have A6 := Aside0.mk A60
      clear A60
      by_cases c7 : t175 < 0
      · rw [if_pos c7] at H
        have c7b0 : decide (t175 < 0) = true := decide_eq_true c7
        clear c7
        obtain rfl := Option.some.inj H
        go_enter Try.func14, Try.ntmps14
        go_wp2_with (first | ((with_reducible refine gate_callee (f := 19) rfl ?_); refine goesL_ (some 20) rfl rfl Try.func19 (by kernel_rfl) rfl #[.string a2] rfl (by (try simp only [List.map_toArray, List.map_cons, List.map_nil]); first | done | rfl | (simp only [List.length_drop, List.length_take]; rfl)) ?_; (with_reducible refine (gantletref14_last.calls k a2 t175 _ A6.out).mono ?_); rintro e w' ⟨rfl, ⟨nd, rfl⟩⟩; refine ⟨_, rfl, ?_⟩))
        go_ret
        exact ⟨by first | rfl | (simp [errW_none, errW_some] <;> rfl) | (simp [*, errW_none, errW_some] <;> rfl), by repeat (first | (with_reducible first | exact HB.out | apply below_alloc | apply pw_below_drewN | apply below_drew1) | exact HB.out)⟩
      · rw [if_neg c7] at H
        have c7b0 : decide (t175 < 0) = false := decide_eq_false c7
        clear c7
        by_cases c8 : t175 = (a2.size : Int)
        · rw [if_pos c8] at H
          have c8b0 : (t175 == (a2.size : Int)) = true := beq_iff_eq.mpr c8
          have c8b1 : (t175 != (a2.size : Int)) = false := bne_eq_false_iff_eq.mpr c8
          clear c8
          obtain rfl := Option.some.inj H
          go_enter Try.func14, Try.ntmps14
          go_wp2_with (first | ((with_reducible refine gate_callee (f := 19) rfl ?_); refine goesL_ (some 20) rfl rfl Try.func19 (by kernel_rfl) rfl #[.string a2] rfl (by (try simp only [List.map_toArray, List.map_cons, List.map_nil]); first | done | rfl | (simp only [List.length_drop, List.length_take]; rfl)) ?_; (with_reducible refine (gantletref14_last.calls k a2 t175 _ A6.out).mono ?_); rintro e w' ⟨rfl, ⟨nd, rfl⟩⟩; refine ⟨_, rfl, ?_⟩))
          go_ret
          exact ⟨by first | rfl | (simp [errW_none, errW_some] <;> rfl) | (simp [*, errW_none, errW_some] <;> rfl), by repeat (first | (with_reducible first | exact HB.out | apply below_alloc | apply pw_below_drewN | apply below_drew1) | exact HB.out)⟩
        · rw [if_neg c8] at H
          have c8b0 : (t175 == (a2.size : Int)) = false := beq_eq_false_iff_ne.mpr c8
          have c8b1 : (t175 != (a2.size : Int)) = true := bne_iff_ne.mpr c8
          have H' := Aside0.mk H
          clear H
          go_enter Try.func14, Try.ntmps14
          go_wp2_with (first | ((with_reducible refine gate_callee (f := 19) rfl ?_); refine goesL_ (some 20) rfl rfl Try.func19 (by kernel_rfl) rfl #[.string a2] rfl (by (try simp only [List.map_toArray, List.map_cons, List.map_nil]); first | done | rfl | (simp only [List.length_drop, List.length_take]; rfl)) ?_; (with_reducible refine (gantletref14_last.calls k a2 t175 _ A6.out).mono ?_); rintro e w' ⟨rfl, ⟨nd, rfl⟩⟩; refine ⟨_, rfl, ?_⟩))
          go_loopg [8] k (fun kq v8 w' => ∃ (x8_1 : Int), v8 = .int .i64 x8_1 ∧ Aside0 (gantletref14_Can.l0 kq a1 a2 t175 x8_1 = some r) ∧ Aside0 (kq ≤ k) ∧ Aside0 (Below w.heap.size w w'))
          case atStart => exact ⟨(1), (by first | rfl | (simp; done) | (simp [*]; done)), H', ⟨Nat.le_refl _⟩, ⟨by repeat (first | (with_reducible first | exact HB.out | apply below_alloc | apply pw_below_drewN | apply below_drew1) | exact HB.out)⟩⟩
          case round =>
            clear H'
            try clear c1
            try clear p2
            try clear c4
            try clear c4b0
            try clear c5
            try clear c5b0
            try clear c5b1
            try clear c7
            try clear c7b0
            try clear c8
            try clear c8b0
            try clear c8b1
            obtain ⟨x8_1, rfl, HA, HK1, HB⟩ := hrel
            cases gk with
            | zero => exact absurd HA.out (by simp [gantletref14_Can.l0])
            | succ k1 =>
              have H := HA.out
              clear HA
              simp only [gantletref14_Can.l0] at H
              have HC9 := Aside0.mk H
              clear H
              go_upto_region 11 with (fail)
              go_cut [36] (fun v36 wc => ∃ (kq : Nat) (x36_8 : Bool), v36 = .bool x36_8 ∧ Aside0 (gantletref14_Can.j1 kq a1 a2 t175 x8_1 x36_8 = some r) ∧ Aside0 (kq ≤ k1) ∧ Aside0 (Below w.heap.size w wc))
              case first =>
                have H := HC9.out
                clear HC9
                by_cases c10 : x8_1 < 4
                · rw [if_pos c10] at H
                  have c10b0 : decide (x8_1 < 4) = true := decide_eq_true c10
                  clear c10
                  (first | rw [c10b0] | (simp only [i64_w, i32_w]; rw [c10b0]) | skip)
                  have H' := Aside0.mk H
                  clear H
                  go_wp2
                  go_meet
                  case rel => exact ⟨_, (decide ((wrap64 ((a2.size : Int) + x8_1)) ≤ a1)), (by first | rfl | (simp; done) | (simp [*]; done)), H', ⟨by have := HK1.out; first | omega | exact Nat.le_refl _⟩, ⟨by repeat (first | (with_reducible first | exact HB.out | apply below_alloc | apply pw_below_drewN | apply below_drew1) | exact HB.out)⟩⟩
                · rw [if_neg c10] at H
                  have c10b0 : decide (x8_1 < 4) = false := decide_eq_false c10
                  clear c10
                  (first | rw [c10b0] | (simp only [i64_w, i32_w]; rw [c10b0]) | skip)
                  have H' := Aside0.mk H
                  clear H
                  go_wp2
                  go_meet
                  case rel => exact ⟨_, (false), (by first | rfl | (simp; done) | (simp [*]; done)), H', ⟨by have := HK1.out; first | omega | exact Nat.le_refl _⟩, ⟨by repeat (first | (with_reducible first | exact HB.out | apply below_alloc | apply pw_below_drewN | apply below_drew1) | exact HB.out)⟩⟩
              case rest =>
                clear HC9
                try clear c1
                try clear p2
                try clear c4
                try clear c4b0
                try clear c5
                try clear c5b0
                try clear c5b1
                try clear p6
                try clear c7
                try clear c7b0
                try clear c8
                try clear c8b0
                try clear c8b1
                try clear c10
                try clear c10b0
                try clear p2
                obtain ⟨kq, x36_8, rfl, HA, HJ8, HB⟩ := hcut
                cases kq with
                | zero => exact absurd HA.out (by simp [gantletref14_Can.j1])
                | succ kj8 =>
                  have H := HA.out
                  clear HA
                  simp only [gantletref14_Can.j1] at H
                  by_cases c11 : x36_8 = true
                  · subst c11
                    have H1 : (gantletref14_Can.l1 kj8 a1 a2 t175 x8_1 0) = some r := by rw [if_pos rfl] at H; exact H
                    clear H
                    have H := H1
                    clear H1
                    have H' := Aside0.mk H
                    clear H
                    go_wp2
                    go_loopg [9] kj8 (fun kq v9 w' => ∃ (x9_3 : Int), v9 = .int .i64 x9_3 ∧ Aside0 (gantletref14_Can.l1 kq a1 a2 t175 x8_1 x9_3 = some r) ∧ Aside0 (kq ≤ kj8) ∧ Aside0 (Below w.heap.size w w'))
                    case atStart => exact ⟨(0), (by first | rfl | (simp; done) | (simp [*]; done)), H', ⟨Nat.le_refl _⟩, ⟨by repeat (first | (with_reducible first | exact HB.out | apply below_alloc | apply pw_below_drewN | apply below_drew1) | exact HB.out)⟩⟩
                    case round =>
                      clear H'
                      try clear c1
                      try clear p2
                      try clear c4
                      try clear c4b0
                      try clear c5
                      try clear c5b0
                      try clear c5b1
                      try clear p6
                      try clear c7
                      try clear c7b0
                      try clear c8
                      try clear c8b0
                      try clear c8b1
                      try clear c10
                      try clear c10b0
                      try clear c11
                      try clear p2
                      try clear p6
                      obtain ⟨x9_3, rfl, HA, HK3, HB⟩ := hrel
                      cases gk with
                      | zero => exact absurd HA.out (by simp [gantletref14_Can.l1])
                      | succ k3 =>
                        have H := HA.out
                        clear HA
                        simp only [gantletref14_Can.l1] at H
                        by_cases c12 : x9_3 < 2
                        · rw [if_pos c12] at H
                          have c12b0 : decide (x9_3 < 2) = true := decide_eq_true c12
                          clear c12
                          by_cases c13 : 0 ≤ t175
                          · rw [if_pos c13] at H
                            have c13b0 := eq_true c13
                            have c13b1 : decide (0 ≤ t175) = true := decide_eq_true c13
                            clear c13
                            by_cases c14 : t175 ≤ (a2.size : Int)
                            · rw [if_pos c14] at H
                              have c14b0 := eq_true c14
                              have c14b1 : decide (t175 ≤ (a2.size : Int)) = true := decide_eq_true c14
                              clear c14
                              have H' := Aside0.mk H
                              clear H
                              go_wp2
                              go_loopg [10, 11] k3 (fun kq v10 v11 w' => ∃ (x10_4 : ByteArray) (x11_4 : Int), v10 = .string x10_4 ∧ v11 = .int .i64 x11_4 ∧ Aside0 (gantletref14_Can.l2 kq a1 a2 t175 x8_1 x9_3 x10_4 x11_4 = some r) ∧ Aside0 (kq ≤ k3) ∧ Aside0 (Below w.heap.size w w'))
                              case atStart => exact ⟨(a2.extract (t175 : Int).toNat a2.size), (0), (by first | rfl | (simp; done) | (simp [*]; done)), (by first | rfl | (simp; done) | (simp [*]; done)), H', ⟨Nat.le_refl _⟩, ⟨by repeat (first | (with_reducible first | exact HB.out | apply below_alloc | apply pw_below_drewN | apply below_drew1) | exact HB.out)⟩⟩
                              case round =>
                                clear H'
                                try clear c1
                                try clear p2
                                try clear c4
                                try clear c4b0
                                try clear c5
                                try clear c5b0
                                try clear c5b1
                                try clear p6
                                try clear c7
                                try clear c7b0
                                try clear c8
                                try clear c8b0
                                try clear c8b1
                                try clear c10
                                try clear c10b0
                                try clear c11
                                try clear c12
                                try clear c12b0
                                try clear c13
                                try clear c13b0
                                try clear c13b1
                                try clear c14
                                try clear c14b0
                                try clear c14b1
                                try clear p2
                                try clear p6
                                obtain ⟨x10_4, x11_4, rfl, rfl, HA, HK4, HB⟩ := hrel
                                cases gk with
                                | zero => exact absurd HA.out (by simp [gantletref14_Can.l2])
                                | succ k4 =>
                                  have H := HA.out
                                  clear HA
                                  simp only [gantletref14_Can.l2] at H
                                  by_cases c15 : x11_4 < x8_1
                                  · rw [if_pos c15] at H
                                    have c15b0 : decide (x11_4 < x8_1) = true := decide_eq_true c15
                                    clear c15
                                    obtain ⟨y176, hy176⟩ : ∃ y_ : List Int, y_ = (([(wrap64 (128 + (wrap64 (63 * x9_3)))) % 256] : List Int)) := ⟨_, rfl⟩
                                    replace H : (if x10_4.size + (strOfNums y176).size ≤ 9223372036854775807 then (gantletref14_Can.l2 k4 a1 a2 t175 x8_1 x9_3 (x10_4 ++ (strOfNums y176)) (wrap64 (x11_4 + 1))) else (none)) = some r := by first | (rw [hy176]; with_reducible exact H) | (have H2_ := (Option.bind_some _ _).symm.trans H; rw [hy176]; with_reducible exact H2_) | (have H2_ := (Option.bind_some _ _).symm.trans H; with_reducible exact H2_) | with_reducible exact H | (rw [hy176]; exact H) | exact H
                                    have Ny176 := Aside0.mk hy176
                                    clear hy176
                                    by_cases c16 : x10_4.size + (strOfNums y176).size ≤ 9223372036854775807
                                    · rw [if_pos c16] at H
                                      have c16b0 := eq_true c16
                                      have c16b1 : decide (x10_4.size + (strOfNums y176).size ≤ 9223372036854775807) = true := decide_eq_true c16
                                      try have c16b2 : (9223372036854775807 < x10_4.size + (strOfNums y176).size) = False := eq_false (Nat.not_lt.2 c16)
                                      have H' := Aside0.mk H
                                      clear H
                                      go_wp2_with (first | ((with_reducible refine gate_dst (N := 56) rfl ?_); (try (refine gate_guard (by rfl) ?_; dsimp only)); refine Kd.R_lit (Kd.int .u8) _ 5 ?hg (N := 56) ?hd (xs := ([(wrap64 (128 + (wrap64 (63 * x9_3)))) % 256] : List Int)) (inner := [.int .u8 ((wrap64 (128 + (wrap64 (63 * x9_3)))) % 256)]) (ok := fun _ => True) (okp := fun _ => True) ?hr ?hp (fun _ hk => hk) trivial (Below.refl _ _) (Nat.le_refl _) (by simp) ?_; (case hd => rfl); (case hg => rfl); (case hr => first | (go_simp; done) | (go_simp; rfl)); (case hp => exact (Reps.one (show Kd.M (Kd.int .u8) _ _ _ ((wrap64 (128 + (wrap64 (63 * x9_3)))) % 256) [.int .u8 ((wrap64 (128 + (wrap64 (63 * x9_3)))) % 256)] from rfl) (Reps.none _ _))); intro v177 w17 ho18 hb hg_ hnew_; clear hg_ hnew_; (first | rw [← Ny176.out] at ho18 | (simp only [Int.reduceToNat] at ho18; rw [← Ny176.out] at ho18)); have n0_ := Aside0.mk (Kd.R_lower ho18 (below_size (by repeat (first | (with_reducible first | exact HB.out | apply below_alloc | apply pw_below_drewN | apply below_drew1) | exact HB.out)))); have n1_ := Aside0.mk (below_step (by repeat (first | (with_reducible first | exact HB.out | apply below_alloc | apply pw_below_drewN | apply below_drew1) | exact HB.out)) hb); clear HB; have HO178 := n0_; have HB := n1_; clear n0_ n1_; clear hb ho18; have hcv19 := own_string (P := Try.prog) Try.underlying38 Try.underlying5 Try.underlying9 (Kd.own_of_R HO178.out)))
                                      go_roundg k4
                                      case measure => have := HK1.out; have := HJ8.out; have := HK3.out; have := HK4.out; omega
                                      case rel => exact ⟨(x10_4 ++ (strOfNums y176)), (wrap64 (x11_4 + 1)), (by first | rfl | (simp; done) | (simp [*]; done)), (by first | rfl | (simp; done) | (simp [*]; done)), H', ⟨by have := HK1.out; have := HJ8.out; have := HK3.out; have := HK4.out; omega⟩, ⟨by repeat (first | (with_reducible first | exact HB.out | apply below_alloc | apply pw_below_drewN | apply below_drew1) | exact HB.out)⟩⟩
                                    · rw [if_neg c16] at H
                                      exact absurd H (by simp)
                                  · rw [if_neg c15] at H
                                    have c15b0 : decide (x11_4 < x8_1) = false := decide_eq_false c15
                                    clear c15
                                    replace H := Option.bind_eq_some_iff.mp H
                                    obtain ⟨t179, A200, H⟩ := H
                                    replace H : (if t179 = (x10_4.size : Int) then (some true) else (gantletref14_Can.l1 k4 a1 a2 t175 x8_1 (wrap64 (x9_3 + 1)))) = some r := H
                                    have A20 := Aside0.mk A200
                                    clear A200
                                    by_cases c21 : t179 = (x10_4.size : Int)
                                    · rw [if_pos c21] at H
                                      have c21b0 : (t179 == (x10_4.size : Int)) = true := beq_iff_eq.mpr c21
                                      have c21b1 : (t179 != (x10_4.size : Int)) = false := bne_eq_false_iff_eq.mpr c21
                                      clear c21
                                      obtain rfl := Option.some.inj H
                                      go_wp2_with (first | ((with_reducible refine gate_callee (f := 20) rfl ?_); refine goesL_ (some 60) rfl rfl Try.func20 (by kernel_rfl) rfl #[.string x10_4, .int .i64 0] rfl (by (try simp only [List.map_toArray, List.map_cons, List.map_nil]); first | done | rfl | (simp only [List.length_drop, List.length_take]; rfl)) ?_; (with_reducible refine (gantletref14_char.calls k4 x10_4 0 t179 _ A20.out).mono ?_); rintro e w' ⟨rfl, ⟨nd, rfl⟩⟩; refine ⟨_, rfl, ?_⟩))
                                      go_ret
                                      exact ⟨by first | rfl | (simp [errW_none, errW_some] <;> rfl) | (simp [*, errW_none, errW_some] <;> rfl), by repeat (first | (with_reducible first | exact HB.out | apply below_alloc | apply pw_below_drewN | apply below_drew1) | exact HB.out)⟩
                                    · rw [if_neg c21] at H
                                      have c21b0 : (t179 == (x10_4.size : Int)) = false := beq_eq_false_iff_ne.mpr c21
                                      have c21b1 : (t179 != (x10_4.size : Int)) = true := bne_iff_ne.mpr c21
                                      have H' := Aside0.mk H
                                      clear H
                                      go_wp2_with (first | ((with_reducible refine gate_callee (f := 20) rfl ?_); refine goesL_ (some 60) rfl rfl Try.func20 (by kernel_rfl) rfl #[.string x10_4, .int .i64 0] rfl (by (try simp only [List.map_toArray, List.map_cons, List.map_nil]); first | done | rfl | (simp only [List.length_drop, List.length_take]; rfl)) ?_; (with_reducible refine (gantletref14_char.calls k4 x10_4 0 t179 _ A20.out).mono ?_); rintro e w' ⟨rfl, ⟨nd, rfl⟩⟩; refine ⟨_, rfl, ?_⟩))
                                      go_roundg k4
                                      case measure => have := HK1.out; have := HJ8.out; have := HK3.out; have := HK4.out; omega
                                      case rel => exact ⟨(wrap64 (x9_3 + 1)), (by first | rfl | (simp; done) | (simp [*]; done)), H', ⟨by have := HK1.out; have := HJ8.out; have := HK3.out; have := HK4.out; omega⟩, ⟨by repeat (first | (with_reducible first | exact HB.out | apply below_alloc | apply pw_below_drewN | apply below_drew1) | exact HB.out)⟩⟩
                            · rw [if_neg c14] at H
                              exact absurd H (by simp)
                          · rw [if_neg c13] at H
                            exact absurd H (by simp)
                        · rw [if_neg c12] at H
                          have c12b0 : decide (x9_3 < 2) = false := decide_eq_false c12
                          clear c12
                          have H' := Aside0.mk H
                          clear H
                          go_wp2
                          go_roundg k3
                          case measure => have := HK1.out; have := HJ8.out; have := HK3.out; omega
                          case rel => exact ⟨(wrap64 (x8_1 + 1)), (by first | rfl | (simp; done) | (simp [*]; done)), H', ⟨by have := HK1.out; have := HJ8.out; have := HK3.out; omega⟩, ⟨by repeat (first | (with_reducible first | exact HB.out | apply below_alloc | apply pw_below_drewN | apply below_drew1) | exact HB.out)⟩⟩
                  · replace c11 := Bool.eq_false_iff.mpr c11
                    subst c11
                    have H1 : (some false) = some r := by rw [if_neg (show ¬ (false = true) by decide)] at H; exact H
                    clear H
                    have H := H1
                    clear H1
                    obtain rfl := Option.some.inj H
                    go_wp2
                    go_ret
                    exact ⟨by first | rfl | (simp [errW_none, errW_some] <;> rfl) | (simp [*, errW_none, errW_some] <;> rfl), by repeat (first | (with_reducible first | exact HB.out | apply below_alloc | apply pw_below_drewN | apply below_drew1) | exact HB.out)⟩
    · rw [if_neg c5] at H
      have c5b0 : (a0 == 12) = false := beq_eq_false_iff_ne.mpr c5
      have c5b1 : (a0 != 12) = true := bne_iff_ne.mpr c5
      replace H := Option.bind_eq_some_iff.mp H
      obtain ⟨t174, A220, H⟩ := H
      replace H : (some t174) = some r := H
      have A22 := Aside0.mk A220
      clear A220
      obtain rfl := Option.some.inj H
      go_enter Try.func14, Try.ntmps14
      go_wp2_with (first | ((with_reducible refine gate_callee (f := 13) rfl ?_); refine goesL_ (some 18) rfl rfl Try.func13 (by kernel_rfl) rfl #[.int .i64 a0, .string a2] rfl (by (try simp only [List.map_toArray, List.map_cons, List.map_nil]); first | done | rfl | (simp only [List.length_drop, List.length_take]; rfl)) ?_; (with_reducible refine (gantletref14_Check.calls k a0 a2 t174 _ A22.out).mono ?_); rintro e w' ⟨rfl, ⟨nd, rfl⟩⟩; refine ⟨_, rfl, ?_⟩))
      go_ret
      exact ⟨by first | rfl | (simp [errW_none, errW_some] <;> rfl) | (simp [*, errW_none, errW_some] <;> rfl), by repeat (first | (with_reducible first | exact HB.out | apply below_alloc | apply pw_below_drewN | apply below_drew1) | exact HB.out)⟩

/-! ### gantletref14_Wrong: function 9 -/
def gantletref14_Wrong.l0 : Nat → Int → Int → ByteArray → Int → Option (Int)
  | 0, _, _, _, _ => none
  | k + 1, x0, x1, x2, x7 => if x7 ≤ (x2.size : Int) then (if 0 ≤ x7 then ((gantletref14_Can.f k x0 x1 (x2.extract 0 (x7 : Int).toNat)).bind fun t180 => (if t180 = true then (gantletref14_Wrong.l0 k x0 x1 x2 (wrap64 (x7 + 1))) else (some x7))) else (none)) else (some (-1))
def gantletref14_Wrong.f (k : Nat) (a0 : Int) (a1 : Int) (a2 : ByteArray) : Option (Int) := gantletref14_Wrong.l0 k a0 a1 a2 0
theorem gantletref14_Wrong.mono_l : ∀ k, (∀ y0 y1 y2 y3, LeO (gantletref14_Wrong.l0 k y0 y1 y2 y3) (gantletref14_Wrong.l0 (k + 1) y0 y1 y2 y3))
  | 0 => fun _ _ _ _ r h => by simp [gantletref14_Wrong.l0] at h
  | k + 1 => by
    have ih0 := gantletref14_Wrong.mono_l k
    · intro y0 y1 y2 y3
      unfold gantletref14_Wrong.l0
      repeat' first
      | (with_reducible exact ih0 _ _ _ _)
      | (with_reducible exact gantletref14_Can.mono _ _ _ _)
      | (with_reducible exact LeO.refl _)
      | (with_reducible exact LeO.none _)
      | (with_reducible refine LeO.ite ?_ ?_)
      | (with_reducible refine LeO.bind ?_ (fun _ => ?_))
      | exact ih0 _ _ _ _
      | exact gantletref14_Can.mono _ _ _ _
      | exact LeO.none _
      | refine LeO.ite ?_ ?_
      | refine LeO.bind ?_ (fun _ => ?_)
theorem gantletref14_Wrong.mono : ∀ a0 a1 a2 k, LeO (gantletref14_Wrong.f k a0 a1 a2) (gantletref14_Wrong.f (k + 1) a0 a1 a2) := by
  intro a0 a1 a2 k
  have ih0 := gantletref14_Wrong.mono_l k
  unfold gantletref14_Wrong.f
  repeat' first
      | (with_reducible exact ih0 _ _ _ _)
      | (with_reducible exact gantletref14_Can.mono _ _ _ _)
      | (with_reducible exact LeO.refl _)
      | (with_reducible exact LeO.none _)
      | (with_reducible refine LeO.ite ?_ ?_)
      | (with_reducible refine LeO.bind ?_ (fun _ => ?_))
      | exact ih0 _ _ _ _
      | exact gantletref14_Can.mono _ _ _ _
      | exact LeO.none _
      | refine LeO.ite ?_ ?_
      | refine LeO.bind ?_ (fun _ => ?_)
set_option maxHeartbeats 8000000 in
set_option maxRecDepth 100000 in
theorem gantletref14_Wrong.calls (k : Nat) (a0 : Int) (a1 : Int) (a2 : ByteArray) (r : Int) (w : World) (h : gantletref14_Wrong.f k a0 a1 a2 = some r) :
    Calls Try.prog 9 #[.int .i64 a0, .int .i64 a1, .string a2] w fun e w' => e = .returned (.int .i64 r) ∧ Below w.heap.size w w' := by
  have HB := Aside0.mk (Below.refl w.heap.size w)
  have H : (gantletref14_Wrong.l0 k a0 a1 a2 0) = some r := h
  clear h
  have H' := Aside0.mk H
  clear H
  go_enter Try.func9, Try.ntmps9
  go_wp2
  go_loopg [7] k (fun kq v7 w' => ∃ (x7_1 : Int), v7 = .int .i64 x7_1 ∧ Aside0 (gantletref14_Wrong.l0 kq a0 a1 a2 x7_1 = some r) ∧ Aside0 (kq ≤ k) ∧ Aside0 (Below w.heap.size w w'))
  case atStart => exact ⟨(0), (by first | rfl | (simp; done) | (simp [*]; done)), H', ⟨Nat.le_refl _⟩, ⟨by repeat (first | (with_reducible first | exact HB.out | apply below_alloc | apply pw_below_drewN | apply below_drew1) | exact HB.out)⟩⟩
  case round =>
    clear H'
    try clear p2
    obtain ⟨x7_1, rfl, HA, HK1, HB⟩ := hrel
    cases gk with
    | zero => exact absurd HA.out (by simp [gantletref14_Wrong.l0])
    | succ k1 =>
      have H := HA.out
      clear HA
      simp only [gantletref14_Wrong.l0] at H
      by_cases c4 : x7_1 ≤ (a2.size : Int)
      · rw [if_pos c4] at H
        have c4b0 : decide (x7_1 ≤ (a2.size : Int)) = true := decide_eq_true c4
        clear c4
        by_cases c5 : 0 ≤ x7_1
        · rw [if_pos c5] at H
          have c5b0 := eq_true c5
          have c5b1 : decide (0 ≤ x7_1) = true := decide_eq_true c5
          clear c5
          have c6b0 := eq_true (of_decide_eq_true (by first | (with_reducible assumption) | assumption) : x7_1 ≤ (a2.size : Int))
          replace H := Option.bind_eq_some_iff.mp H
          obtain ⟨t180, A70, H⟩ := H
          replace H : (if t180 = true then (gantletref14_Wrong.l0 k1 a0 a1 a2 (wrap64 (x7_1 + 1))) else (some x7_1)) = some r := H
          have A7 := Aside0.mk A70
          clear A70
          by_cases c8 : t180 = true
          · subst c8
            have H1 : (gantletref14_Wrong.l0 k1 a0 a1 a2 (wrap64 (x7_1 + 1))) = some r := by rw [if_pos rfl] at H; exact H
            clear H
            have H := H1
            clear H1
            have H' := Aside0.mk H
            clear H
            go_wp2_with (first | ((with_reducible refine gate_callee (f := 14) rfl ?_); refine goesL_ (some 19) rfl rfl Try.func14 (by kernel_rfl) rfl #[.int .i64 a0, .int .i64 a1, .string (a2.extract 0 (x7_1 : Int).toNat)] rfl (by (try simp only [List.map_toArray, List.map_cons, List.map_nil]); first | done | rfl | (simp only [List.length_drop, List.length_take]; rfl)) ?_; (with_reducible refine (gantletref14_Can.calls k1 a0 a1 (a2.extract 0 (x7_1 : Int).toNat) true _ A7.out).mono ?_); rintro e w9 ⟨rfl, hb⟩; refine ⟨_, rfl, ?_⟩; have n0_ := Aside0.mk (below_step (by repeat (first | (with_reducible first | exact HB.out | apply below_alloc | apply pw_below_drewN | apply below_drew1) | exact HB.out)) hb); clear HB; have HB := n0_; clear n0_; (try clear hb); (try clear hb2); (try clear hk); (try clear hi)))
            go_roundg k1
            case measure => have := HK1.out; omega
            case rel => exact ⟨(wrap64 (x7_1 + 1)), (by first | rfl | (simp; done) | (simp [*]; done)), H', ⟨by have := HK1.out; omega⟩, ⟨by repeat (first | (with_reducible first | exact HB.out | apply below_alloc | apply pw_below_drewN | apply below_drew1) | exact HB.out)⟩⟩
          · replace c8 := Bool.eq_false_iff.mpr c8
            subst c8
            have H1 : (some x7_1) = some r := by rw [if_neg (show ¬ (false = true) by decide)] at H; exact H
            clear H
            have H := H1
            clear H1
            obtain rfl := Option.some.inj H
            go_wp2_with (first | ((with_reducible refine gate_callee (f := 14) rfl ?_); refine goesL_ (some 19) rfl rfl Try.func14 (by kernel_rfl) rfl #[.int .i64 a0, .int .i64 a1, .string (a2.extract 0 (x7_1 : Int).toNat)] rfl (by (try simp only [List.map_toArray, List.map_cons, List.map_nil]); first | done | rfl | (simp only [List.length_drop, List.length_take]; rfl)) ?_; (with_reducible refine (gantletref14_Can.calls k1 a0 a1 (a2.extract 0 (x7_1 : Int).toNat) false _ A7.out).mono ?_); rintro e w10 ⟨rfl, hb⟩; refine ⟨_, rfl, ?_⟩; have n0_ := Aside0.mk (below_step (by repeat (first | (with_reducible first | exact HB.out | apply below_alloc | apply pw_below_drewN | apply below_drew1) | exact HB.out)) hb); clear HB; have HB := n0_; clear n0_; (try clear hb); (try clear hb2); (try clear hk); (try clear hi)))
            go_ret
            exact ⟨by first | rfl | (simp [errW_none, errW_some] <;> rfl) | (simp [*, errW_none, errW_some] <;> rfl), by repeat (first | (with_reducible first | exact HB.out | apply below_alloc | apply pw_below_drewN | apply below_drew1) | exact HB.out)⟩
        · rw [if_neg c5] at H
          exact absurd H (by simp)
      · rw [if_neg c4] at H
        have c4b0 : decide (x7_1 ≤ (a2.size : Int)) = false := decide_eq_false c4
        clear c4
        obtain rfl := Option.some.inj H
        go_wp2
        go_ret
        exact ⟨by first | rfl | (simp [errW_none, errW_some] <;> rfl) | (simp [*, errW_none, errW_some] <;> rfl), by repeat (first | (with_reducible first | exact HB.out | apply below_alloc | apply pw_below_drewN | apply below_drew1) | exact HB.out)⟩

end Go.Proofs.Ytjookjdpfbflkaa.PA
