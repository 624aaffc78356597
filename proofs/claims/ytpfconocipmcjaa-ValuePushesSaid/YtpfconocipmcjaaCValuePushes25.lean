/- What the row of ValuePushes stands on, made small by a program of this session (pack.py). -/
import Derived.Test.YtpfconocipmcjaaCValuePushes2
import Derived.Test.YtpfconocipmcjaaCValuePushes4
import Derived.Test.YtpfconocipmcjaaCValuePushes21
import Derived.Test.YtpfconocipmcjaaCValuePushes23
namespace Go.Proofs.Ytpfconocipmcjaa.PC
open RowKit YtpfconocipmcjaaW.PrintWords YtpfconocipmcjaaW.PrintLast YtpfconocipmcjaaW.PrintMore
attribute [local go_sem] max2_int min2_int max_two min_two max_three min_three max_four min_four
set_option linter.unusedVariables false
set_option linter.unusedSimpArgs false
mutual
def gantletref13_grow.j0 : Nat → Int → Int → ByteArray → Bool → Option (Bool)
 | 0, _, _, _, _ => none
 | k + 1, x0, x1, x2, x36 => if x36 = true then (if x2.size + 2 ≤ 9223372036854775807 then ((gantletref13_grow.f k x0 x1 (x2 ++ (⟨#[48, 48]⟩ : ByteArray))).bind fun t235 => (some t235)) else (none)) else (gantletref13_grow.l0 k x0 x1 x2 0)
def gantletref13_grow.l0 : Nat → Int → Int → ByteArray → Int → Option (Bool)
 | 0, _, _, _, _ => none
 | k + 1, x0, x1, x2, x7 => if x7 < 10 then ((some (([(wrap64 (48 + x7)) % 256] : List Int) : List Int)).bind fun y236 => (if x2.size + (strOfNums y236).size ≤ 9223372036854775807 then ((gantletref13_grow.f k x0 x1 (x2 ++ (strOfNums y236))).bind fun t239 => (if t239 = true then (some true) else (gantletref13_grow.l0 k x0 x1 x2 (wrap64 (x7 + 1))))) else (none))) else (some false)
def gantletref13_grow.f : Nat → Int → Int → ByteArray → Option (Bool)
 | 0, _, _, _ => none
 | k + 1, a0, a1, a2 => if (a2.size : Int) ≥ a1 then ((gantletref13_Right.f k a0 a2).bind fun t233 => (some t233)) else (if (a2.size : Int) = (wrap64 (a1 - 1)) then (if a2.size + 1 ≤ 9223372036854775807 then ((gantletref13_Right.f k a0 (a2 ++ (⟨#[90]⟩ : ByteArray))).bind fun t234 => (some t234)) else (none)) else (if (a2.size : Int) ≥ (wrap64 (a1 - 7)) then (gantletref13_grow.j0 k a0 a1 a2 ((Int.tmod (wrap64 (a1 - (a2.size : Int))) 2) == 1)) else (gantletref13_grow.j0 k a0 a1 a2 false)))
end
set_option maxHeartbeats 8000000 in
set_option maxRecDepth 100000 in
theorem gantletref13_grow.calls (k : Nat) : ∀ (a0 : Int) (a1 : Int) (a2 : ByteArray) (r : Bool) (w : World) (h : gantletref13_grow.f k a0 a1 a2 = some r),
 Calls Try.prog 63 #[.int .i64 a0, .int .i64 a1, .string a2] w fun e w' => e = .returned (.bool r) ∧ Below w.heap.size w w' := by
 induction k using Nat.strongRecOn with
 | _ k ih =>
 intro a0 a1 a2 r w h
 cases k with
 | zero => exact absurd h (by simp [gantletref13_grow.f])
 | succ k =>
 simp only [gantletref13_grow.f] at h
 have HB := Aside0.mk (Below.refl w.heap.size w)
 have H : (if (a2.size : Int) ≥ a1 then ((gantletref13_Right.f k a0 a2).bind fun t233 => (some t233)) else (if (a2.size : Int) = (wrap64 (a1 - 1)) then (if a2.size + 1 ≤ 9223372036854775807 then ((gantletref13_Right.f k a0 (a2 ++ (⟨#[90]⟩ : ByteArray))).bind fun t234 => (some t234)) else (none)) else (if (a2.size : Int) ≥ (wrap64 (a1 - 7)) then (gantletref13_grow.j0 k a0 a1 a2 ((Int.tmod (wrap64 (a1 - (a2.size : Int))) 2) == 1)) else (gantletref13_grow.j0 k a0 a1 a2 false)))) = some r := h
 clear h
 by_cases c4 : (a2.size : Int) ≥ a1
 ·
  rw [if_pos c4] at H
  have c4b0 : decide (a1 ≤ (a2.size : Int)) = true := decide_eq_true c4
  clear c4
  replace H := Option.bind_eq_some_iff.mp H
  obtain ⟨t233, A50, H⟩ := H
  replace H : (some t233) = some r := H
  have A5 := Aside0.mk A50
  clear A50
  obtain rfl := Option.some.inj H
  go_enter Try.func63, Try.ntmps63
  go_wp2_with (first | ((with_reducible refine gate_callee (f := 75) rfl ?_); refine goesL_ (some 14) rfl rfl Try.func75 zz8 rfl #[.int .i64 a0, .string a2] rfl zz5 ?_; (with_reducible refine (gantletref13_Right.calls k a0 a2 t233 _ A5.out).mono ?_); rintro e w' ⟨rfl, ⟨nd, rfl⟩⟩; refine ⟨_, rfl, ?_⟩))
  go_ret
  exact ⟨zz6, zz2⟩
 ·
  rw [if_neg c4] at H
  have c4b0 : decide (a1 ≤ (a2.size : Int)) = false := decide_eq_false c4
  clear c4
  by_cases c6 : (a2.size : Int) = (wrap64 (a1 - 1))
  ·
   rw [if_pos c6] at H
   have c6b0 := beq_iff_eq.mpr c6
   have c6b1 := bne_eq_false_iff_eq.mpr c6
   clear c6
   by_cases c7 : a2.size + 1 ≤ 9223372036854775807
   ·
    rw [if_pos c7] at H
    have c7b0 := eq_true c7
    have c7b1 := decide_eq_true c7
    try have c7b2 : (9223372036854775807 < a2.size + 1) = False := eq_false (Nat.not_lt.2 c7)
    replace H := Option.bind_eq_some_iff.mp H
    obtain ⟨t234, A80, H⟩ := H
    replace H : (some t234) = some r := H
    have A8 := Aside0.mk A80
    clear A80
    obtain rfl := Option.some.inj H
    go_enter Try.func63, Try.ntmps63
    go_wp2_with (first | ((with_reducible refine gate_callee (f := 75) rfl ?_); refine goesL_ (some 23) rfl rfl Try.func75 zz8 rfl #[.int .i64 a0, .string (a2 ++ (⟨#[90]⟩ : ByteArray))] rfl zz5 ?_; (with_reducible refine (gantletref13_Right.calls k a0 (a2 ++ (⟨#[90]⟩ : ByteArray)) t234 _ A8.out).mono ?_); rintro e w' ⟨rfl, ⟨nd, rfl⟩⟩; refine ⟨_, rfl, ?_⟩))
    go_ret
    exact ⟨zz6, zz2⟩
   ·
    rw [if_neg c7] at H
    exact absurd H zz29
  ·
   rw [if_neg c6] at H
   have c6b0 := beq_eq_false_iff_ne.mpr c6
   have c6b1 := bne_iff_ne.mpr c6
   have HC9 := Aside0.mk H
   clear H
   go_enter Try.func63, Try.ntmps63
   go_upto_region 5 with (fail)
   go_cut [36] (fun v36 wc => ∃ (kq : Nat) (x36_8 : Bool), v36 = .bool x36_8 ∧ Aside0 (gantletref13_grow.j0 kq a0 a1 a2 x36_8 = some r) ∧ Aside0 (kq ≤ k) ∧ Aside0 (Below w.heap.size w wc))
   case first =>
    have H := HC9.out
    clear HC9
    by_cases c10 : (a2.size : Int) ≥ (wrap64 (a1 - 7))
    ·
     rw [if_pos c10] at H
     have c10b0 : decide ((wrap64 (a1 - 7)) ≤ (a2.size : Int)) = true := decide_eq_true c10
     clear c10
     (first | rw [c10b0] | (simp only [i64_w, i32_w]; rw [c10b0]) | skip)
     have H' := Aside0.mk H
     clear H
     go_wp2
     go_meet
     case rel => exact ⟨_, (((Int.tmod (wrap64 (a1 - (a2.size : Int))) 2) == 1)), zz0, H', ⟨zz30⟩, ⟨zz2⟩⟩
    ·
     rw [if_neg c10] at H
     have c10b0 : decide ((wrap64 (a1 - 7)) ≤ (a2.size : Int)) = false := decide_eq_false c10
     clear c10
     (first | rw [c10b0] | (simp only [i64_w, i32_w]; rw [c10b0]) | skip)
     have H' := Aside0.mk H
     clear H
     go_wp2
     go_meet
     case rel => exact ⟨_, (false), zz0, H', ⟨zz30⟩, ⟨zz2⟩⟩
   case rest =>
    clear HC9
    try clear c4b0
    try clear c6
    try clear c6b0
    try clear c6b1
    obtain ⟨kq, x36_8, rfl, HA, HJ8, HB⟩ := hcut
    cases kq with
    | zero => exact absurd HA.out (by simp [gantletref13_grow.j0])
    | succ kj8 =>
      have H := HA.out
      clear HA
      simp only [gantletref13_grow.j0] at H
      by_cases c11 : x36_8 = true
      ·
       subst c11
       rw [if_pos rfl] at H
       by_cases c12 : a2.size + 2 ≤ 9223372036854775807
       ·
        rw [if_pos c12] at H
        have c12b0 := eq_true c12
        have c12b1 := decide_eq_true c12
        try have c12b2 : (9223372036854775807 < a2.size + 2) = False := eq_false (Nat.not_lt.2 c12)
        replace H := Option.bind_eq_some_iff.mp H
        obtain ⟨t235, A130, H⟩ := H
        replace H : (some t235) = some r := H
        have A13 := Aside0.mk A130
        clear A130
        obtain rfl := Option.some.inj H
        go_wp2_with (first | ((with_reducible refine gate_callee (f := 63) rfl ?_); refine goesL_ (some 41) rfl rfl Try.func63 zz8 rfl #[.int .i64 a0, .int .i64 a1, .string (a2 ++ (⟨#[48, 48]⟩ : ByteArray))] rfl zz5 ?_; (with_reducible refine (ih kj8 (by have := HJ8.out; omega) a0 a1 (a2 ++ (⟨#[48, 48]⟩ : ByteArray)) t235 _ A13.out).mono ?_); rintro e w14 ⟨rfl, hb⟩; refine ⟨_, rfl, ?_⟩; have n0_ := Aside0.mk (below_step zz2 hb); clear HB; have HB := n0_; clear n0_; (try clear hb); (try clear hb2); (try clear hk); (try clear hi)))
        go_ret
        exact ⟨zz6, zz2⟩
       ·
        rw [if_neg c12] at H
        exact absurd H zz29
      ·
       replace c11 := Bool.eq_false_iff.mpr c11
       subst c11
       rw [if_neg (show ¬ (false = true) by decide)] at H
       have H' := Aside0.mk H
       clear H
       go_wp2
       go_loopg [7] kj8 (fun kq v7 w' => ∃ (x7_2 : Int), v7 = .int .i64 x7_2 ∧ Aside0 (gantletref13_grow.l0 kq a0 a1 a2 x7_2 = some r) ∧ Aside0 (kq ≤ kj8) ∧ Aside0 (Below w.heap.size w w'))
       case atStart => exact ⟨(0), zz0, H', ⟨Nat.le_refl _⟩, ⟨zz2⟩⟩
       case round =>
        clear H'
        try clear c11
        obtain ⟨x7_2, rfl, HA, HK2, HB⟩ := hrel
        cases gk with
        | zero => exact absurd HA.out (by simp [gantletref13_grow.l0])
        | succ k2 =>
          have H := HA.out
          clear HA
          simp only [gantletref13_grow.l0] at H
          by_cases c15 : x7_2 < 10
          ·
           rw [if_pos c15] at H
           have c15b0 := decide_eq_true c15
           clear c15
           obtain ⟨y236, hy236⟩ : ∃ y_ : List Int, y_ = (([(wrap64 (48 + x7_2)) % 256] : List Int)) := ⟨_, rfl⟩
           replace H : (if a2.size + (strOfNums y236).size ≤ 9223372036854775807 then ((gantletref13_grow.f k2 a0 a1 (a2 ++ (strOfNums y236))).bind fun t239 => (if t239 = true then (some true) else (gantletref13_grow.l0 k2 a0 a1 a2 (wrap64 (x7_2 + 1))))) else (none)) = some r := by first | (rw [hy236]; with_reducible exact H) | (have H2_ := (Option.bind_some _ _).symm.trans H; rw [hy236]; with_reducible exact H2_) | (have H2_ := (Option.bind_some _ _).symm.trans H; with_reducible exact H2_) | with_reducible exact H | (rw [hy236]; exact H) | exact H
           have Ny236 := Aside0.mk hy236
           clear hy236
           by_cases c16 : a2.size + (strOfNums y236).size ≤ 9223372036854775807
           ·
            rw [if_pos c16] at H
            have c16b0 := eq_true c16
            have c16b1 := decide_eq_true c16
            try have c16b2 : (9223372036854775807 < a2.size + (strOfNums y236).size) = False := eq_false (Nat.not_lt.2 c16)
            replace H := Option.bind_eq_some_iff.mp H
            obtain ⟨t239, A170, H⟩ := H
            replace H : (if t239 = true then (some true) else (gantletref13_grow.l0 k2 a0 a1 a2 (wrap64 (x7_2 + 1)))) = some r := H
            have A17 := Aside0.mk A170
            clear A170
            by_cases c18 : t239 = true
            ·
             subst c18
             rw [if_pos rfl] at H
             obtain rfl := Option.some.inj H
             go_wp2_with (first | ((with_reducible refine gate_dst (N := 52) rfl ?_); (try (refine gate_guard (by rfl) ?_; dsimp only)); refine Kd.R_lit (Kd.int .u8) _ 5 ?hg (N := 52) ?hd (xs := ([(wrap64 (48 + x7_2)) % 256] : List Int)) (inner := [.int .u8 ((wrap64 (48 + x7_2)) % 256)]) (ok := fun _ => True) (okp := fun _ => True) ?hr ?hp (fun _ hk => hk) trivial (Below.refl _ _) (Nat.le_refl _) zz29 ?_; (case hd => rfl); (case hg => rfl); (case hr => first | (go_simp; done) | (go_simp; rfl)); (case hp => exact (Reps.one (show Kd.M (Kd.int .u8) _ _ _ ((wrap64 (48 + x7_2)) % 256) [.int .u8 ((wrap64 (48 + x7_2)) % 256)] from rfl) (Reps.none _ _))); intro v237 w19 ho20 hb hg_ hnew_; clear hg_ hnew_; (first | rw [← Ny236.out] at ho20 | (simp only [Int.reduceToNat] at ho20; rw [← Ny236.out] at ho20)); have n0_ := Aside0.mk (Kd.R_lower ho20 (below_size zz2)); have n1_ := Aside0.mk (below_step zz2 hb); clear HB; have HO238 := n0_; have HB := n1_; clear n0_ n1_; clear hb ho20; have hcv21 := own_string (P := Try.prog) Try.underlying52 Try.underlying5 Try.underlying9 (Kd.own_of_R HO238.out)) | ((with_reducible refine gate_callee (f := 63) rfl ?_); refine goesL_ (some 55) rfl rfl Try.func63 zz8 rfl #[.int .i64 a0, .int .i64 a1, .string (a2 ++ (strOfNums y236))] rfl zz5 ?_; (with_reducible refine (ih k2 (by have := HJ8.out; have := HK2.out; omega) a0 a1 (a2 ++ (strOfNums y236)) true _ A17.out).mono ?_); rintro e w22 ⟨rfl, hb⟩; refine ⟨_, rfl, ?_⟩; have n0_ := Aside0.mk (Kd.R_below (by (with_reducible repeat (first | apply Kd.R_alloc | apply Kd.R_drewN | apply Kd.R_drew)); exact HO238.out) hb); have n1_ := Aside0.mk (below_step zz2 hb); clear HO238; clear HB; have HO238 := n0_; have HB := n1_; clear n0_ n1_; (try clear hb); (try clear hb2); (try clear hk); (try clear hi)))
             go_ret
             exact ⟨zz6, zz2⟩
            ·
             replace c18 := Bool.eq_false_iff.mpr c18
             subst c18
             rw [if_neg (show ¬ (false = true) by decide)] at H
             have H' := Aside0.mk H
             clear H
             go_wp2_with (first | ((with_reducible refine gate_dst (N := 52) rfl ?_); (try (refine gate_guard (by rfl) ?_; dsimp only)); refine Kd.R_lit (Kd.int .u8) _ 5 ?hg (N := 52) ?hd (xs := ([(wrap64 (48 + x7_2)) % 256] : List Int)) (inner := [.int .u8 ((wrap64 (48 + x7_2)) % 256)]) (ok := fun _ => True) (okp := fun _ => True) ?hr ?hp (fun _ hk => hk) trivial (Below.refl _ _) (Nat.le_refl _) zz29 ?_; (case hd => rfl); (case hg => rfl); (case hr => first | (go_simp; done) | (go_simp; rfl)); (case hp => exact (Reps.one (show Kd.M (Kd.int .u8) _ _ _ ((wrap64 (48 + x7_2)) % 256) [.int .u8 ((wrap64 (48 + x7_2)) % 256)] from rfl) (Reps.none _ _))); intro v237 w23 ho24 hb hg_ hnew_; clear hg_ hnew_; (first | rw [← Ny236.out] at ho24 | (simp only [Int.reduceToNat] at ho24; rw [← Ny236.out] at ho24)); have n0_ := Aside0.mk (Kd.R_lower ho24 (below_size zz2)); have n1_ := Aside0.mk (below_step zz2 hb); clear HB; have HO238 := n0_; have HB := n1_; clear n0_ n1_; clear hb ho24; have hcv25 := own_string (P := Try.prog) Try.underlying52 Try.underlying5 Try.underlying9 (Kd.own_of_R HO238.out)) | ((with_reducible refine gate_callee (f := 63) rfl ?_); refine goesL_ (some 55) rfl rfl Try.func63 zz8 rfl #[.int .i64 a0, .int .i64 a1, .string (a2 ++ (strOfNums y236))] rfl zz5 ?_; (with_reducible refine (ih k2 (by have := HJ8.out; have := HK2.out; omega) a0 a1 (a2 ++ (strOfNums y236)) false _ A17.out).mono ?_); rintro e w26 ⟨rfl, hb⟩; refine ⟨_, rfl, ?_⟩; have n0_ := Aside0.mk (Kd.R_below (by (with_reducible repeat (first | apply Kd.R_alloc | apply Kd.R_drewN | apply Kd.R_drew)); exact HO238.out) hb); have n1_ := Aside0.mk (below_step zz2 hb); clear HO238; clear HB; have HO238 := n0_; have HB := n1_; clear n0_ n1_; (try clear hb); (try clear hb2); (try clear hk); (try clear hi)))
             go_roundg k2
             case measure => have := HJ8.out; have := HK2.out; omega
             case rel => exact ⟨(wrap64 (x7_2 + 1)), zz0, H', ⟨by have := HJ8.out; have := HK2.out; omega⟩, ⟨zz2⟩⟩
           ·
            rw [if_neg c16] at H
            exact absurd H zz29
          ·
           rw [if_neg c15] at H
           have c15b0 := decide_eq_false c15
           clear c15
           obtain rfl := Option.some.inj H
           go_wp2
           go_ret
           exact ⟨zz6, zz2⟩
end Go.Proofs.Ytpfconocipmcjaa.PC
namespace Go.Proofs.Ytpfconocipmcjaa.PC
open RowKit YtpfconocipmcjaaW.PrintWords YtpfconocipmcjaaW.PrintLast YtpfconocipmcjaaW.PrintMore
attribute [local go_sem] max2_int min2_int max_two min_two max_three min_three max_four min_four
set_option linter.unusedVariables false
set_option linter.unusedSimpArgs false
def gantletref13_Can.j0 : Nat → Int → Int → ByteArray → Bool → Option (Bool)
 | 0, _, _, _, _ => none
 | k + 1, x0, x1, x2, x28 => if x28 = true then (some false) else (if (x2.size : Int) ≤ (wrap64 (x1 - 11)) then ((gantletref13_plain.f k x2).bind fun t240 => (if t240 = true then (if x0 = 23 then (some true) else ((gantletref13_year.f k x2).bind fun t241 => (some t241))) else (some false))) else ((gantletref13_grow.f k x0 x1 x2).bind fun t242 => (some t242)))
def gantletref13_Can.f (k : Nat) (a0 : Int) (a1 : Int) (a2 : ByteArray) : Option (Bool) := if a0 = 23 then (if a1 = 13 then (if a0 = 24 then (if a1 = 15 then (gantletref13_Can.j0 k a0 a1 a2 false) else (gantletref13_Can.j0 k a0 a1 a2 true)) else (gantletref13_Can.j0 k a0 a1 a2 false)) else (gantletref13_Can.j0 k a0 a1 a2 true)) else (if a0 = 24 then (if a1 = 15 then (gantletref13_Can.j0 k a0 a1 a2 false) else (gantletref13_Can.j0 k a0 a1 a2 true)) else (gantletref13_Can.j0 k a0 a1 a2 true))
set_option maxHeartbeats 8000000 in
set_option maxRecDepth 100000 in
theorem gantletref13_Can.calls (k : Nat) (a0 : Int) (a1 : Int) (a2 : ByteArray) (r : Bool) (w : World) (h : gantletref13_Can.f k a0 a1 a2 = some r) :
 Calls Try.prog 43 #[.int .i64 a0, .int .i64 a1, .string a2] w fun e w' => e = .returned (.bool r) ∧ Below w.heap.size w w' := by
 have HB := Aside0.mk (Below.refl w.heap.size w)
 have H : (if a0 = 23 then (if a1 = 13 then (if a0 = 24 then (if a1 = 15 then (gantletref13_Can.j0 k a0 a1 a2 false) else (gantletref13_Can.j0 k a0 a1 a2 true)) else (gantletref13_Can.j0 k a0 a1 a2 false)) else (gantletref13_Can.j0 k a0 a1 a2 true)) else (if a0 = 24 then (if a1 = 15 then (gantletref13_Can.j0 k a0 a1 a2 false) else (gantletref13_Can.j0 k a0 a1 a2 true)) else (gantletref13_Can.j0 k a0 a1 a2 true))) = some r := h
 clear h
 have HC4 := Aside0.mk H
 clear H
 go_enter Try.func43, Try.ntmps43
 go_upto_region 1 with (fail)
 go_cut [28] (fun v28 wc => ∃ (kq : Nat) (x28_3 : Bool), v28 = .bool x28_3 ∧ Aside0 (gantletref13_Can.j0 kq a0 a1 a2 x28_3 = some r) ∧ Aside0 (kq ≤ k) ∧ Aside0 (Below w.heap.size w wc))
 case first =>
  have H := HC4.out
  clear HC4
  by_cases c5 : a0 = 23
  ·
   rw [if_pos c5] at H
   have c5b0 := beq_iff_eq.mpr c5
   have c5b1 := bne_eq_false_iff_eq.mpr c5
   clear c5
   (first | rw [c5b0] | (simp only [i64_w, i32_w]; rw [c5b0]) | skip)
   by_cases c6 : a1 = 13
   ·
    rw [if_pos c6] at H
    have c6b0 := beq_iff_eq.mpr c6
    have c6b1 := bne_eq_false_iff_eq.mpr c6
    clear c6
    by_cases c7 : a0 = 24
    ·
     rw [if_pos c7] at H
     have c7b0 := beq_iff_eq.mpr c7
     have c7b1 := bne_eq_false_iff_eq.mpr c7
     clear c7
     by_cases c8 : a1 = 15
     ·
      rw [if_pos c8] at H
      have c8b0 := beq_iff_eq.mpr c8
      have c8b1 := bne_eq_false_iff_eq.mpr c8
      clear c8
      have H' := Aside0.mk H
      clear H
      go_wp2
      go_meet
      case rel => exact ⟨_, (false), zz0, H', ⟨zz30⟩, ⟨zz2⟩⟩
     ·
      rw [if_neg c8] at H
      have c8b0 := beq_eq_false_iff_ne.mpr c8
      have c8b1 := bne_iff_ne.mpr c8
      have H' := Aside0.mk H
      clear H
      go_wp2
      go_meet
      case rel => exact ⟨_, (true), zz0, H', ⟨zz30⟩, ⟨zz2⟩⟩
    ·
     rw [if_neg c7] at H
     have c7b0 := beq_eq_false_iff_ne.mpr c7
     have c7b1 := bne_iff_ne.mpr c7
     have H' := Aside0.mk H
     clear H
     go_wp2
     go_meet
     case rel => exact ⟨_, (false), zz0, H', ⟨zz30⟩, ⟨zz2⟩⟩
   ·
    rw [if_neg c6] at H
    have c6b0 := beq_eq_false_iff_ne.mpr c6
    have c6b1 := bne_iff_ne.mpr c6
    have H' := Aside0.mk H
    clear H
    go_wp2
    go_meet
    case rel => exact ⟨_, (true), zz0, H', ⟨zz30⟩, ⟨zz2⟩⟩
  ·
   rw [if_neg c5] at H
   have c5b0 := beq_eq_false_iff_ne.mpr c5
   have c5b1 := bne_iff_ne.mpr c5
   (first | rw [c5b0] | (simp only [i64_w, i32_w]; rw [c5b0]) | skip)
   by_cases c9 : a0 = 24
   ·
    rw [if_pos c9] at H
    have c9b0 := beq_iff_eq.mpr c9
    have c9b1 := bne_eq_false_iff_eq.mpr c9
    clear c9
    by_cases c10 : a1 = 15
    ·
     rw [if_pos c10] at H
     have c10b0 := beq_iff_eq.mpr c10
     have c10b1 := bne_eq_false_iff_eq.mpr c10
     clear c10
     have H' := Aside0.mk H
     clear H
     go_wp2
     go_meet
     case rel => exact ⟨_, (false), zz0, H', ⟨zz30⟩, ⟨zz2⟩⟩
    ·
     rw [if_neg c10] at H
     have c10b0 := beq_eq_false_iff_ne.mpr c10
     have c10b1 := bne_iff_ne.mpr c10
     have H' := Aside0.mk H
     clear H
     go_wp2
     go_meet
     case rel => exact ⟨_, (true), zz0, H', ⟨zz30⟩, ⟨zz2⟩⟩
   ·
    rw [if_neg c9] at H
    have c9b0 := beq_eq_false_iff_ne.mpr c9
    have c9b1 := bne_iff_ne.mpr c9
    have H' := Aside0.mk H
    clear H
    go_wp2
    go_meet
    case rel => exact ⟨_, (true), zz0, H', ⟨zz30⟩, ⟨zz2⟩⟩
 case rest =>
  clear HC4
  obtain ⟨kq, x28_3, rfl, HA, HJ3, HB⟩ := hcut
  cases kq with
  | zero => exact absurd HA.out (by simp [gantletref13_Can.j0])
  | succ kj3 =>
    have H := HA.out
    clear HA
    simp only [gantletref13_Can.j0] at H
    by_cases c11 : x28_3 = true
    ·
     subst c11
     rw [if_pos rfl] at H
     obtain rfl := Option.some.inj H
     go_wp2
     go_ret
     exact ⟨zz6, zz2⟩
    ·
     replace c11 := Bool.eq_false_iff.mpr c11
     subst c11
     rw [if_neg (show ¬ (false = true) by decide)] at H
     by_cases c12 : (a2.size : Int) ≤ (wrap64 (a1 - 11))
     ·
      rw [if_pos c12] at H
      have c12b0 := decide_eq_true c12
      clear c12
      replace H := Option.bind_eq_some_iff.mp H
      obtain ⟨t240, A130, H⟩ := H
      replace H : (if t240 = true then (if a0 = 23 then (some true) else ((gantletref13_year.f kj3 a2).bind fun t241 => (some t241))) else (some false)) = some r := H
      have A13 := Aside0.mk A130
      clear A130
      by_cases c14 : t240 = true
      ·
       subst c14
       rw [if_pos rfl] at H
       by_cases c15 : a0 = 23
       ·
        rw [if_pos c15] at H
        have c15b0 := beq_iff_eq.mpr c15
        have c15b1 := bne_eq_false_iff_eq.mpr c15
        clear c15
        obtain rfl := Option.some.inj H
        go_wp2_with (first | ((with_reducible refine gate_callee (f := 61) rfl ?_); refine goesL_ (some 35) rfl rfl Try.func61 zz8 rfl #[.string a2] rfl zz5 ?_; (with_reducible refine (gantletref13_plain.calls kj3 a2 true _ A13.out).mono ?_); rintro e w' ⟨rfl, ⟨nd, rfl⟩⟩; refine ⟨_, rfl, ?_⟩))
        go_ret
        exact ⟨zz6, zz2⟩
       ·
        rw [if_neg c15] at H
        have c15b0 := beq_eq_false_iff_ne.mpr c15
        have c15b1 := bne_iff_ne.mpr c15
        replace H := Option.bind_eq_some_iff.mp H
        obtain ⟨t241, A160, H⟩ := H
        replace H : (some t241) = some r := H
        have A16 := Aside0.mk A160
        clear A160
        obtain rfl := Option.some.inj H
        go_wp2_with (first | ((with_reducible refine gate_callee (f := 61) rfl ?_); refine goesL_ (some 35) rfl rfl Try.func61 zz8 rfl #[.string a2] rfl zz5 ?_; (with_reducible refine (gantletref13_plain.calls kj3 a2 true _ A13.out).mono ?_); rintro e w' ⟨rfl, ⟨nd, rfl⟩⟩; refine ⟨_, rfl, ?_⟩) | (go_at_call 62; (with_reducible refine (gantletref13_year.calls kj3 a2 t241 _ A16.out).mono ?_); rintro e w' ⟨rfl, ⟨nd, rfl⟩⟩))
        go_ret
        exact ⟨zz6, zz2⟩
      ·
       replace c14 := Bool.eq_false_iff.mpr c14
       subst c14
       rw [if_neg (show ¬ (false = true) by decide)] at H
       obtain rfl := Option.some.inj H
       go_wp2_with (first | ((with_reducible refine gate_callee (f := 61) rfl ?_); refine goesL_ (some 35) rfl rfl Try.func61 zz8 rfl #[.string a2] rfl zz5 ?_; (with_reducible refine (gantletref13_plain.calls kj3 a2 false _ A13.out).mono ?_); rintro e w' ⟨rfl, ⟨nd, rfl⟩⟩; refine ⟨_, rfl, ?_⟩))
       go_ret
       exact ⟨zz6, zz2⟩
     ·
      rw [if_neg c12] at H
      have c12b0 := decide_eq_false c12
      clear c12
      replace H := Option.bind_eq_some_iff.mp H
      obtain ⟨t242, A170, H⟩ := H
      replace H : (some t242) = some r := H
      have A17 := Aside0.mk A170
      clear A170
      obtain rfl := Option.some.inj H
      go_wp2_with (first | ((with_reducible refine gate_callee (f := 63) rfl ?_); refine goesL_ (some 47) rfl rfl Try.func63 zz8 rfl #[.int .i64 a0, .int .i64 a1, .string a2] rfl zz5 ?_; (with_reducible refine (gantletref13_grow.calls kj3 a0 a1 a2 t242 _ A17.out).mono ?_); rintro e w18 ⟨rfl, hb⟩; refine ⟨_, rfl, ?_⟩; have n0_ := Aside0.mk (below_step zz2 hb); clear HB; have HB := n0_; clear n0_; (try clear hb); (try clear hb2); (try clear hk); (try clear hi)))
      go_ret
      exact ⟨zz6, zz2⟩
def gantletref13_Wrong.l0 : Nat → Int → Int → ByteArray → Int → Option (Int)
 | 0, _, _, _, _ => none
 | k + 1, x0, x1, x2, x7 => if x7 ≤ (x2.size : Int) then (if 0 ≤ x7 then ((gantletref13_Can.f k x0 x1 (x2.extract 0 (x7 : Int).toNat)).bind fun t243 => (if t243 = true then (gantletref13_Wrong.l0 k x0 x1 x2 (wrap64 (x7 + 1))) else (some x7))) else (none)) else (some (-1))
def gantletref13_Wrong.f (k : Nat) (a0 : Int) (a1 : Int) (a2 : ByteArray) : Option (Int) := gantletref13_Wrong.l0 k a0 a1 a2 0
set_option maxHeartbeats 8000000 in
set_option maxRecDepth 100000 in
theorem gantletref13_Wrong.calls (k : Nat) (a0 : Int) (a1 : Int) (a2 : ByteArray) (r : Int) (w : World) (h : gantletref13_Wrong.f k a0 a1 a2 = some r) :
 Calls Try.prog 32 #[.int .i64 a0, .int .i64 a1, .string a2] w fun e w' => e = .returned (.int .i64 r) ∧ Below w.heap.size w w' := by
 have HB := Aside0.mk (Below.refl w.heap.size w)
 have H : (gantletref13_Wrong.l0 k a0 a1 a2 0) = some r := h
 clear h
 have H' := Aside0.mk H
 clear H
 go_enter Try.func32, Try.ntmps32
 go_wp2
 go_loopg [7] k (fun kq v7 w' => ∃ (x7_1 : Int), v7 = .int .i64 x7_1 ∧ Aside0 (gantletref13_Wrong.l0 kq a0 a1 a2 x7_1 = some r) ∧ Aside0 (kq ≤ k) ∧ Aside0 (Below w.heap.size w w'))
 case atStart => exact ⟨(0), zz0, H', ⟨Nat.le_refl _⟩, ⟨zz2⟩⟩
 case round =>
  clear H'
  obtain ⟨x7_1, rfl, HA, HK1, HB⟩ := hrel
  cases gk with
  | zero => exact absurd HA.out (by simp [gantletref13_Wrong.l0])
  | succ k1 =>
    have H := HA.out
    clear HA
    simp only [gantletref13_Wrong.l0] at H
    by_cases c4 : x7_1 ≤ (a2.size : Int)
    ·
     rw [if_pos c4] at H
     have c4b0 := decide_eq_true c4
     clear c4
     by_cases c5 : 0 ≤ x7_1
     ·
      rw [if_pos c5] at H
      have c5b0 := eq_true c5
      have c5b1 := decide_eq_true c5
      clear c5
      have c6b0 := eq_true (of_decide_eq_true zz4 : x7_1 ≤ (a2.size : Int))
      replace H := Option.bind_eq_some_iff.mp H
      obtain ⟨t243, A70, H⟩ := H
      replace H : (if t243 = true then (gantletref13_Wrong.l0 k1 a0 a1 a2 (wrap64 (x7_1 + 1))) else (some x7_1)) = some r := H
      have A7 := Aside0.mk A70
      clear A70
      by_cases c8 : t243 = true
      ·
       subst c8
       rw [if_pos rfl] at H
       have H' := Aside0.mk H
       clear H
       go_wp2_with (first | ((with_reducible refine gate_callee (f := 43) rfl ?_); refine goesL_ (some 19) rfl rfl Try.func43 zz8 rfl #[.int .i64 a0, .int .i64 a1, .string (a2.extract 0 (x7_1 : Int).toNat)] rfl zz5 ?_; (with_reducible refine (gantletref13_Can.calls k1 a0 a1 (a2.extract 0 (x7_1 : Int).toNat) true _ A7.out).mono ?_); rintro e w9 ⟨rfl, hb⟩; refine ⟨_, rfl, ?_⟩; have n0_ := Aside0.mk (below_step zz2 hb); clear HB; have HB := n0_; clear n0_; (try clear hb); (try clear hb2); (try clear hk); (try clear hi)))
       go_roundg k1
       case measure => have := HK1.out; omega
       case rel => exact ⟨(wrap64 (x7_1 + 1)), zz0, H', ⟨zz59⟩, ⟨zz2⟩⟩
      ·
       replace c8 := Bool.eq_false_iff.mpr c8
       subst c8
       rw [if_neg (show ¬ (false = true) by decide)] at H
       obtain rfl := Option.some.inj H
       go_wp2_with (first | ((with_reducible refine gate_callee (f := 43) rfl ?_); refine goesL_ (some 19) rfl rfl Try.func43 zz8 rfl #[.int .i64 a0, .int .i64 a1, .string (a2.extract 0 (x7_1 : Int).toNat)] rfl zz5 ?_; (with_reducible refine (gantletref13_Can.calls k1 a0 a1 (a2.extract 0 (x7_1 : Int).toNat) false _ A7.out).mono ?_); rintro e w10 ⟨rfl, hb⟩; refine ⟨_, rfl, ?_⟩; have n0_ := Aside0.mk (below_step zz2 hb); clear HB; have HB := n0_; clear n0_; (try clear hb); (try clear hb2); (try clear hk); (try clear hi)))
       go_ret
       exact ⟨zz6, zz2⟩
     ·
      rw [if_neg c5] at H
      exact absurd H zz29
    ·
     rw [if_neg c4] at H
     have c4b0 := decide_eq_false c4
     clear c4
     obtain rfl := Option.some.inj H
     go_wp2
     go_ret
     exact ⟨zz6, zz2⟩
end Go.Proofs.Ytpfconocipmcjaa.PC
