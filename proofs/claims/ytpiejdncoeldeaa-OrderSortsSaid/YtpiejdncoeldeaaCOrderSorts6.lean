/- What the row of OrderSorts stands on, made small by a program of this session (pack.py). -/
import Derived.Test.YtpiejdncoeldeaaCOrderSorts2
namespace Go.Proofs.Ytpiejdncoeldeaa.PA
open Go.RowKit Go.Proofs.YtpiejdncoeldeaaW.PrintWords Go.Proofs.YtpiejdncoeldeaaW.PrintLast Go.Proofs.YtpiejdncoeldeaaW.PrintMore
attribute [local go_sem] max2_int min2_int max_two min_two max_three min_three max_four min_four
set_option linter.unusedVariables false
set_option linter.unusedSimpArgs false
def order_at.f (a0 : ByteArray) (a1 : Int) : Option (Int) := if a1 < (a0.size : Int) then (if 0 ≤ a1 then (some (bt a0 a1)) else (none)) else (some 0)
set_option maxHeartbeats 8000000 in
set_option maxRecDepth 100000 in
theorem order_at.calls (a0 : ByteArray) (a1 : Int) (r : Int) (w : World) (h : order_at.f a0 a1 = some r) :
    Calls Try.prog 22 #[.string a0, .int .i64 a1] w fun e w' => e = .returned (.int .u8 r) ∧ Drawn0 w w' := by
  have H : (if a1 < (a0.size : Int) then (if 0 ≤ a1 then (some (bt a0 a1)) else (none)) else (some 0)) = some r := h
  clear h
  by_cases c3 : a1 < (a0.size : Int)
  · rw [if_pos c3] at H
    have c3b0 : decide (a1 < (a0.size : Int)) = true := decide_eq_true c3
    clear c3
    by_cases c4 : 0 ≤ a1
    · rw [if_pos c4] at H
      have c4b0 : decide (0 ≤ a1) = true := decide_eq_true c4
      clear c4
      obtain rfl := Option.some.inj H
      have p5 : 0 ≤ (a1 : Int) := of_decide_eq_true (by first | (with_reducible assumption) | assumption)
      have q5 : a1 < (a0.size : Int) := of_decide_eq_true (by first | (with_reducible assumption) | assumption)
      have hx5 := bt_at a0 a1
      replace p5 := eq_true p5
      replace q5 := eq_true q5
      go_enter Try.func22, Try.ntmps22
      go_wp2
      go_ret
      exact ⟨by first | rfl | (simp; done) | (simp [*]; done), by repeat (first | exact Drawn0.refl _ | apply Drawn0.step)⟩
    · rw [if_neg c4] at H
      exact absurd H (by simp)
  · rw [if_neg c3] at H
    have c3b0 : decide (a1 < (a0.size : Int)) = false := decide_eq_false c3
    clear c3
    obtain rfl := Option.some.inj H
    go_enter Try.func22, Try.ntmps22
    go_wp2
    go_ret
    exact ⟨by first | rfl | (simp; done) | (simp [*]; done), by repeat (first | exact Drawn0.refl _ | apply Drawn0.step)⟩
def order_Compare.l0 : Nat → ByteArray → ByteArray → Int → Int → Option (Int)
  | 0, _, _, _, _ => none
  | k + 1, x0, x1, x12, x13 => if x13 < x12 then ((order_at.f x0 x13).bind fun t101 => ((order_at.f x1 x13).bind fun t102 => (if t101 < t102 then (some (-1)) else (if t101 > t102 then (some 1) else (order_Compare.l0 k x0 x1 x12 (wrap64 (x13 + 1))))))) else (some 0)
def order_Compare.f (k : Nat) (a0 : ByteArray) (a1 : ByteArray) : Option (Int) := order_Compare.l0 k a0 a1 (mx (a0.size : Int) (a1.size : Int)) 0
set_option maxHeartbeats 8000000 in
set_option maxRecDepth 100000 in
theorem order_Compare.calls (k : Nat) (a0 : ByteArray) (a1 : ByteArray) (r : Int) (w : World) (h : order_Compare.f k a0 a1 = some r) :
    Calls Try.prog 9 #[.string a0, .string a1] w fun e w' => e = .returned (.int .i64 r) ∧ Below w.heap.size w w' := by
  have HB := Aside0.mk (Below.refl w.heap.size w)
  have H : (order_Compare.l0 k a0 a1 (mx (a0.size : Int) (a1.size : Int)) 0) = some r := h
  clear h
  obtain ⟨ji3, hji3⟩ : ∃ j_ : Int, (mx (a0.size : Int) (a1.size : Int)) = j_ := ⟨_, rfl⟩
  replace H : (order_Compare.l0 k a0 a1 ji3 0) = some r := by first | (rw [hji3] at H; exact H) | (simp only [hji3] at H ⊢; exact H)
  (try (have hji3l : 0 ≤ ji3 := by (rw [← hji3]; unfold mx; (repeat' split) <;> omega)))
  (try (have hji3m : 0 ≤ ji3 := by omega))
  have hji3_ : (if (a0.size : Int) < (a1.size : Int) then (a1.size : Int) else (a0.size : Int)) = ji3 := hji3
  have hji3_n : (if a0.size < a1.size then (a1.size : Int) else (a0.size : Int)) = ji3 := by rw [← hji3_]; by_cases hq : a0.size < a1.size
                                                                                             · rw [if_pos hq, if_pos (by omega)]
                                                                                             · rw [if_neg hq, if_neg (by omega)]
  have H' := Aside0.mk H
  clear H
  go_enter Try.func9, Try.ntmps9
  go_wp2
  go_loopg [13] k (fun kq v13 w' => ∃ (x13_1 : Int), v13 = .int .i64 x13_1 ∧ Aside0 (order_Compare.l0 kq a0 a1 ji3 x13_1 = some r) ∧ Aside0 (kq ≤ k) ∧ Aside0 (Below w.heap.size w w'))
  case atStart => exact ⟨(0), (by first | rfl | (simp; done) | (simp [*]; done)), H', ⟨Nat.le_refl _⟩, ⟨by repeat (first | (with_reducible first | exact HB.out | apply below_alloc | apply pw_below_drewN | apply below_drew1) | exact HB.out)⟩⟩
  case round =>
    clear H'
    try clear p2
    obtain ⟨x13_1, rfl, HA, HK1, HB⟩ := hrel
    cases gk with
    | zero => exact absurd HA.out (by simp [order_Compare.l0])
    | succ k1 =>
      have H := HA.out
      clear HA
      simp only [order_Compare.l0] at H
      by_cases c4 : x13_1 < ji3
      · rw [if_pos c4] at H
        have c4b0 : decide (x13_1 < ji3) = true := decide_eq_true c4
        clear c4
        replace H := Option.bind_eq_some_iff.mp H
        obtain ⟨t101, A50, H⟩ := H
        replace H : ((order_at.f a1 x13_1).bind fun t102 => (if t101 < t102 then (some (-1)) else (if t101 > t102 then (some 1) else (order_Compare.l0 k1 a0 a1 ji3 (wrap64 (x13_1 + 1)))))) = some r := H
        have A5 := Aside0.mk A50
        clear A50
        replace H := Option.bind_eq_some_iff.mp H
        obtain ⟨t102, A60, H⟩ := H
        replace H : (if t101 < t102 then (some (-1)) else (if t101 > t102 then (some 1) else (order_Compare.l0 k1 a0 a1 ji3 (wrap64 (x13_1 + 1))))) = some r := H
        have A6 := Aside0.mk A60
        clear A60
        by_cases c7 : t101 < t102
        · rw [if_pos c7] at H
          have c7b0 : decide (t101 < t102) = true := decide_eq_true c7
          clear c7
          obtain rfl := Option.some.inj H
          go_wp2_with (first | ((with_reducible refine gate_callee (f := 22) rfl ?_); refine goesL_ (some 18) rfl rfl Try.func22 (by kernel_rfl) rfl #[.string a0, .int .i64 x13_1] rfl (by (try simp only [List.map_toArray, List.map_cons, List.map_nil]); first | done | rfl | (simp only [List.length_drop, List.length_take]; rfl)) ?_; (with_reducible refine (order_at.calls a0 x13_1 t101 _ A5.out).mono ?_); rintro e w' ⟨rfl, ⟨nd, rfl⟩⟩; refine ⟨_, rfl, ?_⟩) | ((with_reducible refine gate_callee (f := 22) rfl ?_); refine goesL_ (some 21) rfl rfl Try.func22 (by kernel_rfl) rfl #[.string a1, .int .i64 x13_1] rfl (by (try simp only [List.map_toArray, List.map_cons, List.map_nil]); first | done | rfl | (simp only [List.length_drop, List.length_take]; rfl)) ?_; (with_reducible refine (order_at.calls a1 x13_1 t102 _ A6.out).mono ?_); rintro e w' ⟨rfl, ⟨nd, rfl⟩⟩; refine ⟨_, rfl, ?_⟩))
          go_ret
          exact ⟨by first | rfl | (simp [errW_none, errW_some] <;> rfl) | (simp only [← hji3]; first | rfl | (simp [errW_none, errW_some] <;> rfl)) | (simp [*, errW_none, errW_some] <;> rfl), by repeat (first | (with_reducible first | exact HB.out | apply below_alloc | apply pw_below_drewN | apply below_drew1) | exact HB.out)⟩
        · rw [if_neg c7] at H
          have c7b0 : decide (t101 < t102) = false := decide_eq_false c7
          clear c7
          by_cases c8 : t101 > t102
          · rw [if_pos c8] at H
            have c8b0 : decide (t102 < t101) = true := decide_eq_true c8
            clear c8
            obtain rfl := Option.some.inj H
            go_wp2_with (first | ((with_reducible refine gate_callee (f := 22) rfl ?_); refine goesL_ (some 18) rfl rfl Try.func22 (by kernel_rfl) rfl #[.string a0, .int .i64 x13_1] rfl (by (try simp only [List.map_toArray, List.map_cons, List.map_nil]); first | done | rfl | (simp only [List.length_drop, List.length_take]; rfl)) ?_; (with_reducible refine (order_at.calls a0 x13_1 t101 _ A5.out).mono ?_); rintro e w' ⟨rfl, ⟨nd, rfl⟩⟩; refine ⟨_, rfl, ?_⟩) | ((with_reducible refine gate_callee (f := 22) rfl ?_); refine goesL_ (some 21) rfl rfl Try.func22 (by kernel_rfl) rfl #[.string a1, .int .i64 x13_1] rfl (by (try simp only [List.map_toArray, List.map_cons, List.map_nil]); first | done | rfl | (simp only [List.length_drop, List.length_take]; rfl)) ?_; (with_reducible refine (order_at.calls a1 x13_1 t102 _ A6.out).mono ?_); rintro e w' ⟨rfl, ⟨nd, rfl⟩⟩; refine ⟨_, rfl, ?_⟩))
            go_ret
            exact ⟨by first | rfl | (simp [errW_none, errW_some] <;> rfl) | (simp only [← hji3]; first | rfl | (simp [errW_none, errW_some] <;> rfl)) | (simp [*, errW_none, errW_some] <;> rfl), by repeat (first | (with_reducible first | exact HB.out | apply below_alloc | apply pw_below_drewN | apply below_drew1) | exact HB.out)⟩
          · rw [if_neg c8] at H
            have c8b0 : decide (t102 < t101) = false := decide_eq_false c8
            clear c8
            have H' := Aside0.mk H
            clear H
            go_wp2_with (first | ((with_reducible refine gate_callee (f := 22) rfl ?_); refine goesL_ (some 18) rfl rfl Try.func22 (by kernel_rfl) rfl #[.string a0, .int .i64 x13_1] rfl (by (try simp only [List.map_toArray, List.map_cons, List.map_nil]); first | done | rfl | (simp only [List.length_drop, List.length_take]; rfl)) ?_; (with_reducible refine (order_at.calls a0 x13_1 t101 _ A5.out).mono ?_); rintro e w' ⟨rfl, ⟨nd, rfl⟩⟩; refine ⟨_, rfl, ?_⟩) | ((with_reducible refine gate_callee (f := 22) rfl ?_); refine goesL_ (some 21) rfl rfl Try.func22 (by kernel_rfl) rfl #[.string a1, .int .i64 x13_1] rfl (by (try simp only [List.map_toArray, List.map_cons, List.map_nil]); first | done | rfl | (simp only [List.length_drop, List.length_take]; rfl)) ?_; (with_reducible refine (order_at.calls a1 x13_1 t102 _ A6.out).mono ?_); rintro e w' ⟨rfl, ⟨nd, rfl⟩⟩; refine ⟨_, rfl, ?_⟩))
            go_roundg k1
            case measure => have := HK1.out; omega
            case rel => exact ⟨(wrap64 (x13_1 + 1)), (by first | rfl | (simp; done) | (simp [*]; done)), H', ⟨by have := HK1.out; omega⟩, ⟨by repeat (first | (with_reducible first | exact HB.out | apply below_alloc | apply pw_below_drewN | apply below_drew1) | exact HB.out)⟩⟩
      · rw [if_neg c4] at H
        have c4b0 : decide (x13_1 < ji3) = false := decide_eq_false c4
        clear c4
        obtain rfl := Option.some.inj H
        go_wp2
        go_ret
        exact ⟨by first | rfl | (simp [errW_none, errW_some] <;> rfl) | (simp only [← hji3]; first | rfl | (simp [errW_none, errW_some] <;> rfl)) | (simp [*, errW_none, errW_some] <;> rfl), by repeat (first | (with_reducible first | exact HB.out | apply below_alloc | apply pw_below_drewN | apply below_drew1) | exact HB.out)⟩
end Go.Proofs.Ytpiejdncoeldeaa.PA
namespace Go.Proofs.Ytpiejdncoeldeaa.Hand
open Go.RowKit Go.Proofs.Ytpiejdncoeldeaa.PA Go.Proofs.YtpiejdncoeldeaaW.PrintWords Go.Proofs.YtpiejdncoeldeaaW.PrintLast Go.Proofs.YtpiejdncoeldeaaW.PrintMore
set_option linter.unusedVariables false
theorem info5 : (Try.prog.info? 5).map (fun i => (i.zero, i.size, i.bytes)) = some (some (.int .u8 0), 1, 1) := by kernel_rfl
def So (w0 w : World) (g : Nat) (most : Int) (last now : List Int) (begun : Bool) (over : Int) : Prop :=
  ∃ vl vn, w.heap[g]? = some (.cells #[.int .i64 most, vl, vn, .bool begun, .int .i64 over] 47 (0, 0)) ∧ w0.heap.size ≤ g ∧ (Kd.int .u8).R 5 w w0.heap.size (fun _ => True) vl last ∧ (Kd.int .u8).R 5 w w0.heap.size (fun _ => True) vn now ∧
    (∀ k, vn.ownBlock = some k → some k ≠ vl.ownBlock)
theorem So.below {w0 w w1 : World} {g : Nat} {most : Int} {last now : List Int} {begun : Bool} {over : Int} (h : So w0 w g most last now begun over) (hb : Below w.heap.size w w1) : So w0 w1 g most last now begun over := by
  obtain ⟨vl, vn, h1, h2, h3, h4, h5⟩ := h
  exact ⟨vl, vn, blk_below h1 hb, h2, Kd.R_below h3 hb, Kd.R_below h4 hb, h5⟩
theorem So.drew {w0 w : World} {g : Nat} {most : Int} {last now : List Int} {begun : Bool} {over : Int} (h : So w0 w g most last now begun over) : So w0 w.drew g most last now begun over := h.below (below_drew1 (Below.refl _ _))
theorem So.turn {w0 w : World} {g : Nat} {most : Int} {last now : List Int} {begun : Bool} {Al An : Option Addr} {cl cn : Nat} (hB : w.heap[g]? = some (.cells #[.int .i64 most, .slice Al last.length cl, .slice An now.length cn, .bool begun, .int .i64 0] 47 (0, 0)))
    (hg : w0.heap.size ≤ g) (hl : (Kd.int .u8).R 5 w w0.heap.size (fun _ => True) (.slice Al last.length cl) last) (hn : (Kd.int .u8).R 5 w w0.heap.size (fun _ => True) (.slice An now.length cn) now) (hp : ∀ k, (Value.slice An now.length cn).ownBlock = some k → some k ≠ (Value.slice Al last.length cl).ownBlock) :
    So w0 (((w.setCell ⟨g, 1, none⟩ (.slice An now.length cn)).setCell ⟨g, 2, none⟩ (.slice Al 0 cl)).setCell ⟨g, 3, none⟩ (.bool true)) g most now [] true 0 := by
  have b1 := blk_put hB 1 (.slice An now.length cn) rfl
  have b2 := blk_put b1 2 (.slice Al 0 cl) rfl
  have b3 := blk_put b2 3 (.bool true) rfl
  have l0 : (Kd.int .u8).R 5 w w0.heap.size (fun _ => True) (.slice Al 0 cl) [] := Kd.R_take hl (Nat.zero_le _)
  refine ⟨_, _, b3, hg, Kd.R_set (Kd.R_set (Kd.R_set hn hB (by decide) 1 _) b1 (by decide) 2 _) b2 (by decide) 3 _, Kd.R_set (Kd.R_set (Kd.R_set l0 hB (by decide) 1 _) b1 (by decide) 2 _) b2 (by decide) 3 _, ?_⟩
  intro k hk e
  cases Al with
  | none => cases hk
  | some a => exact hp k e.symm hk.symm
end Go.Proofs.Ytpiejdncoeldeaa.Hand
namespace Go.Proofs.Ytpiejdncoeldeaa.Hand
open Go.RowKit Go.Proofs.Ytpiejdncoeldeaa.PA Go.Proofs.YtpiejdncoeldeaaW.PrintWords Go.Proofs.YtpiejdncoeldeaaW.PrintLast Go.Proofs.YtpiejdncoeldeaaW.PrintMore
set_option linter.unusedVariables false
set_option maxHeartbeats 4000000 in
set_option maxRecDepth 100000 in
theorem push_over (g : Nat) (most : Int) (last now : List Int) (begun : Bool) (over b : Int) (w0 w : World) (hB : Below w0.heap.size w0 w) (hS : So w0 w g most last now begun over) (ho : over ≠ 0) :
    Calls Try.prog 13 #[.pointer (some ⟨g, 0, none⟩), .int .u8 b] w fun e w' => e = .returned (.int .i64 over) ∧ So w0 w' g most last now begun over ∧ Below w0.heap.size w0 w' := by
  have hS' := Aside0.mk hS
  have HB := Aside0.mk hB
  obtain ⟨vl, vn, hb0, hge, hl, hn, hap⟩ := hS
  have hc4 : w.cell? ⟨g, 4, none⟩ = some (.int .i64 over) := (blk_cell hb0 4).trans rfl
  have ho1 : (over == 0) = false := beq_eq_false_iff_ne.2 ho
  clear hB hb0 hl hn hap
  go_enter Try.func13, Try.ntmps13
  go_wp2
  go_region
  go_wp2
  go_ret
  exact ⟨rfl, hS'.out, by repeat (first | (with_reducible first | exact HB.out | apply below_alloc | apply pw_below_drewN | apply below_drew1) | exact HB.out)⟩
set_option maxHeartbeats 4000000 in
set_option maxRecDepth 100000 in
theorem push_full (g : Nat) (most : Int) (last now : List Int) (begun : Bool) (b : Int) (w0 w : World) (hB : Below w0.heap.size w0 w) (hS : So w0 w g most last now begun 0) (ho : (now.length : Int) = most) :
    Calls Try.prog 13 #[.pointer (some ⟨g, 0, none⟩), .int .u8 b] w fun e w' => e = .returned (.int .i64 11) ∧ So w0 w' g most last now begun 11 ∧ Below w0.heap.size w0 w' := by
  have HB := Aside0.mk hB
  obtain ⟨vl, vn, hb0, hge, hl, hn, hap⟩ := hS
  obtain ⟨An, cn, rfl⟩ := Kd.R_slice hn
  have BG := Aside0.mk hb0
  have HL := Aside0.mk hl
  have HN := Aside0.mk hn
  have HP := Aside0.mk hap
  have GE := Aside0.mk hge
  have hc0 : w.cell? ⟨g, 0, none⟩ = some (.int .i64 most) := (blk_cell hb0 0).trans rfl
  have hc2 : w.cell? ⟨g, 2, none⟩ = some (.slice An now.length cn) := (blk_cell hb0 2).trans rfl
  have hc4 : w.cell? ⟨g, 4, none⟩ = some (.int .i64 0) := (blk_cell hb0 4).trans rfl
  have hf4 : w.frozen? ⟨g, 4, none⟩ = false := blk_frozen hb0 4
  have ho1 : ((now.length : Int) == most) = true := beq_iff_eq.2 ho
  clear hB hb0 hl hn hap hge ho
  go_enter Try.func13, Try.ntmps13
  go_wp2
  go_region
  go_wp2
  go_ret
  exact ⟨rfl, ⟨vl, _, blk_put (cs := #[.int .i64 most, vl, .slice An now.length cn, .bool begun, .int .i64 0]) BG.out 4 _ rfl, GE.out, Kd.R_set HL.out BG.out (by decide) 4 _, Kd.R_set HN.out BG.out (by decide) 4 _, HP.out⟩, by repeat (first | (with_reducible first | exact HB.out | apply below_alloc | apply pw_below_drewN | apply below_drew1 | refine below_set ?_ GE.out) | exact HB.out)⟩
set_option maxHeartbeats 4000000 in
set_option maxRecDepth 100000 in
theorem push_more (g : Nat) (most : Int) (last now : List Int) (begun : Bool) (b : Int) (w0 w : World) (hB : Below w0.heap.size w0 w) (hS : So w0 w g most last now begun 0) (ho : (now.length : Int) ≠ most) (hlen : now.length ≤ 100000) :
    Calls Try.prog 13 #[.pointer (some ⟨g, 0, none⟩), .int .u8 b] w fun e w' => e = .returned (.int .i64 0) ∧ So w0 w' g most last (now ++ [b]) begun 0 ∧ Below w0.heap.size w0 w' := by
  have HB := Aside0.mk hB
  obtain ⟨vl, vn, hb0, hge, hl, hn, hap⟩ := hS
  obtain ⟨An, cn, rfl⟩ := Kd.R_slice hn
  obtain ⟨Al, cl, rfl⟩ := Kd.R_slice hl
  have BG := Aside0.mk hb0
  have HL := Aside0.mk hl
  have HN := Aside0.mk hn
  have HP := Aside0.mk hap
  have GE := Aside0.mk hge
  have BGd : w.drew.heap[g]? = some (.cells #[.int .i64 most, .slice Al last.length cl, .slice An now.length cn, .bool begun, .int .i64 0] 47 (0, 0)) := hb0
  have HLd := Kd.R_drew hl
  have HNd := Kd.R_drew hn
  have HBd : Below w0.heap.size w0 w.drew := below_drew1 hB
  have hc0 : w.cell? ⟨g, 0, none⟩ = some (.int .i64 most) := (blk_cell hb0 0).trans rfl
  have hc2 : w.cell? ⟨g, 2, none⟩ = some (.slice An now.length cn) := (blk_cell hb0 2).trans rfl
  have hc4 : w.cell? ⟨g, 4, none⟩ = some (.int .i64 0) := (blk_cell hb0 4).trans rfl
  have ho1 : ((now.length : Int) == most) = false := beq_eq_false_iff_ne.2 ho
  clear hB hb0 hl hn hap hge ho
  go_enter Try.func13, Try.ntmps13
  go_wp2
  go_region
  clear HB BG HL HN hc0 hc2 hc4
  generalize w.drew = wd at *
  have HB := Aside0.mk HBd
  have BG := Aside0.mk BGd
  have HL := Aside0.mk HLd
  have HN := Aside0.mk HNd
  clear HBd BGd HLd HNd
  have hc2 : wd.cell? ⟨g, 2, none⟩ = some (.slice An now.length cn) := (blk_cell BG.out 2).trans rfl
  have hc4 : wd.cell? ⟨g, 4, none⟩ = some (.int .i64 0) := (blk_cell BG.out 4).trans rfl
  go_wp2_with (first
    | ((with_reducible refine gate_builtin (b := .append) (xs := #[.tmp 34, .tmp 36]) rfl ?_); at_builtin
       refine Kd.R_append (Kd.int .u8) (w0 := w0) w0.heap.size rfl (.tmp 34) (.tmp 36) 45 5 (.int .u8 0) 1 rfl Try.underlying45 info5 rfl (by decide) (by omega) (.slice An now.length cn) now b [.int .u8 b] (fun _ => True) (fun _ => False) rfl rfl ?aP (fun _ hk => hk.elim) ?aF ?aO ?aB ?aS ?aL ?_
       (case aP => exact rfl); (case aB => exact (by repeat (first | (with_reducible first | exact HB.out | apply below_alloc | apply pw_below_drewN | apply below_drew1) | exact HB.out))); (case aF => exact (fun _ _ => trivial)); (case aO => exact (by (with_reducible repeat (first | apply Kd.R_alloc | apply Kd.R_drewN | apply Kd.R_drew)); exact HN.out)); (case aS => exact (below_size (by repeat (first | (with_reducible first | exact HB.out | apply below_alloc | apply pw_below_drewN | apply below_drew1) | exact HB.out)))); (case aL => omega)
       intro v2 w2 ho hb hg2 hat
       have n0_ := Aside0.mk (blk_grown (g := g) (o := .cells #[.int .i64 most, .slice Al last.length cl, .slice An now.length cn, .bool begun, .int .i64 0] 47 (0, 0)) (by (with_reducible repeat (first | refine blk_drewN ?_ _ | refine blk_drew ?_ | refine blk_alloc ?_ _)); exact BG.out) hg2 (Kd.R_ne HN.out BG.out (by decide)))
       have n1_ := Aside0.mk (Kd.R_grown2 (d := Kd.int .u8) (v := .slice Al last.length cl) (xs := last) (by (with_reducible repeat (first | apply Kd.R_alloc | apply Kd.R_drewN | apply Kd.R_drew)); exact HL.out) rfl hg2 HP.out)
       have n4_ : Aside0 (∀ k, v2.ownBlock = some k → some k ≠ (Value.slice Al last.length cl).ownBlock) := ⟨by
         rcases hat with hat | ⟨q, hq, hlt⟩
         · rw [hat]; exact HP.out
         · intro k hk e
           rw [hq] at hk
           obtain rfl := Option.some.inj hk
           have h1 := own_lt (Kd.own_of_R HL.out) q e.symm
           have h2 : wd.heap.size ≤ q := Nat.le_trans (by simp) hlt
           omega⟩
       obtain ⟨A2, c2, rfl⟩ := Kd.R_slice1 ho (by simp)
       have n2_ := Aside0.mk hb; have n3_ := Aside0.mk ho
       clear HB BG HL HN HP hc2 hc4; have BG := n0_; have HL := n1_; have HB := n2_; have HN := n3_; have HP := n4_; clear n0_ n1_ n2_ n3_ n4_; clear ho hb hg2 hat
       have he4 : w2.cell? ⟨g, 4, none⟩ = some (.int .i64 0) := (blk_cell BG.out 4).trans rfl
       have hf2 : w2.frozen? ⟨g, 2, none⟩ = false := blk_frozen BG.out 2
       have he2 : w2.cell? ⟨g, 2, none⟩ = some (.slice An now.length cn) := (blk_cell BG.out 2).trans rfl))
  go_ret
  exact ⟨rfl, ⟨_, _, blk_put (cs := #[.int .i64 most, .slice Al last.length cl, .slice An now.length cn, .bool begun, .int .i64 0]) BG.out 2 _ rfl, GE.out, Kd.R_set HL.out BG.out (by decide) 2 _, (by have h_ := Kd.R_set HN.out BG.out (by decide) 2 (Value.slice (some A2) (now.length + 1) c2); rwa [show (now ++ [b]).length = now.length + 1 by simp] at h_), (by have h_ := HP.out; rwa [show (now ++ [b]).length = now.length + 1 by simp] at h_)⟩, by repeat (first | (with_reducible first | exact HB.out | apply below_alloc | apply pw_below_drewN | apply below_drew1 | refine below_set ?_ GE.out) | exact HB.out)⟩
end Go.Proofs.Ytpiejdncoeldeaa.Hand
namespace Go.Proofs.Ytpiejdncoeldeaa.Hand
open Go.RowKit Go.Proofs.Ytpiejdncoeldeaa.PA Go.Proofs.YtpiejdncoeldeaaW.PrintWords Go.Proofs.YtpiejdncoeldeaaW.PrintLast Go.Proofs.YtpiejdncoeldeaaW.PrintMore
set_option linter.unusedVariables false
set_option maxHeartbeats 4000000 in
set_option maxRecDepth 100000 in
theorem end_first (g : Nat) (most : Int) (last now : List Int) (w0 w : World) (hB : Below w0.heap.size w0 w) (hS : So w0 w g most last now false 0) :
    Calls Try.prog 15 #[.pointer (some ⟨g, 0, none⟩)] w fun e w' => e = .returned (.int .i64 0) ∧ So w0 w' g most now [] true 0 ∧ Below w0.heap.size w0 w' := by
  have HB := Aside0.mk hB
  obtain ⟨vl, vn, hb0, hge, hl, hn, hap⟩ := hS
  obtain ⟨An, cn, rfl⟩ := Kd.R_slice hn
  obtain ⟨Al, cl, rfl⟩ := Kd.R_slice hl
  have HT := Aside0.mk (fun (W : World) (h : W.heap = w.heap) => h)
  have BG := Aside0.mk hb0
  have HL := Aside0.mk hl
  have HN := Aside0.mk hn
  have HP := Aside0.mk hap
  have GE := Aside0.mk hge
  have hc1 : w.cell? ⟨g, 1, none⟩ = some (.slice Al last.length cl) := (blk_cell hb0 1).trans rfl
  have hc2 : w.cell? ⟨g, 2, none⟩ = some (.slice An now.length cn) := (blk_cell hb0 2).trans rfl
  have hc3 : w.cell? ⟨g, 3, none⟩ = some (.bool false) := (blk_cell hb0 3).trans rfl
  have hc4 : w.cell? ⟨g, 4, none⟩ = some (.int .i64 0) := (blk_cell hb0 4).trans rfl
  have hf1 : w.frozen? ⟨g, 1, none⟩ = false := blk_frozen hb0 1
  have hf2 : w.frozen? ⟨g, 2, none⟩ = false := blk_frozen hb0 2
  have hf3 : w.frozen? ⟨g, 3, none⟩ = false := blk_frozen hb0 3
  clear hB hb0 hl hn hap hge
  go_enter Try.func15, Try.ntmps15
  go_wp2
  go_region
  go_wp2
  go_region
  go_wp2
  go_ret
  exact ⟨rfl, (So.turn BG.out GE.out HL.out HN.out HP.out).drew.drew, by repeat (first | (with_reducible first | exact HB.out | apply below_alloc | apply pw_below_drewN | apply below_drew1 | refine below_set ?_ GE.out) | exact HB.out)⟩
set_option maxHeartbeats 4000000 in
set_option maxRecDepth 100000 in
theorem end_ok (k : Nat) (g : Nat) (most : Int) (last now : List Int) (c : Int) (w0 w : World) (hB : Below w0.heap.size w0 w) (hS : So w0 w g most last now true 0) (h : order_Compare.f k (strOfNums last) (strOfNums now) = some c) (hc : c ≤ 0) :
    Calls Try.prog 15 #[.pointer (some ⟨g, 0, none⟩)] w fun e w' => e = .returned (.int .i64 0) ∧ So w0 w' g most now [] true 0 ∧ Below w0.heap.size w0 w' := by
  have HB := Aside0.mk hB
  have HC := Aside0.mk h
  obtain ⟨vl, vn, hb0, hge, hl, hn, hap⟩ := hS
  obtain ⟨An, cn, rfl⟩ := Kd.R_slice hn
  obtain ⟨Al, cl, rfl⟩ := Kd.R_slice hl
  have BG := Aside0.mk hb0
  have HL := Aside0.mk hl
  have HN := Aside0.mk hn
  have HP := Aside0.mk hap
  have GE := Aside0.mk hge
  have hc1 : w.cell? ⟨g, 1, none⟩ = some (.slice Al last.length cl) := (blk_cell hb0 1).trans rfl
  have hc2 : w.cell? ⟨g, 2, none⟩ = some (.slice An now.length cn) := (blk_cell hb0 2).trans rfl
  have hc3 : w.cell? ⟨g, 3, none⟩ = some (.bool true) := (blk_cell hb0 3).trans rfl
  have hc4 : w.cell? ⟨g, 4, none⟩ = some (.int .i64 0) := (blk_cell hb0 4).trans rfl
  have hvl := own_string (P := Try.prog) Try.underlying45 Try.underlying5 Try.underlying9 (Kd.own_of_R (Kd.R_drew hl))
  have hvn := own_string (P := Try.prog) Try.underlying45 Try.underlying5 Try.underlying9 (Kd.own_of_R (Kd.R_drew hn))
  have hd1 : decide (0 < c) = false := by simp; omega
  clear hB hb0 hl hn hap hge h
  go_enter Try.func15, Try.ntmps15
  go_upto_region 3 with (fail)
  go_cut [29] (fun v29 wc => v29 = .bool false ∧ Aside0 (wc.heap[g]? = some (.cells #[.int .i64 most, .slice Al last.length cl, .slice An now.length cn, .bool true, .int .i64 0] 47 (0, 0))) ∧ Aside0 ((Kd.int .u8).R 5 wc w0.heap.size (fun _ => True) (.slice Al last.length cl) last) ∧ Aside0 ((Kd.int .u8).R 5 wc w0.heap.size (fun _ => True) (.slice An now.length cn) now) ∧ Aside0 (Below w0.heap.size w0 wc))
  case first =>
    go_region_with (first
    | (
       go_at_call 9
       (with_reducible refine (order_Compare.calls k (strOfNums last) (strOfNums now) c _ HC.out).mono ?_)
       rintro e w2 ⟨rfl, hb⟩
       have n0_ := Aside0.mk (blk_below (by (with_reducible repeat (first | refine blk_drewN ?_ _ | refine blk_drew ?_ | refine blk_alloc ?_ _)); exact BG.out) hb)
       have n1_ := Aside0.mk (Kd.R_below (by (with_reducible repeat (first | apply Kd.R_alloc | apply Kd.R_drewN | apply Kd.R_drew)); exact HL.out) hb)
       have n2_ := Aside0.mk (Kd.R_below (by (with_reducible repeat (first | apply Kd.R_alloc | apply Kd.R_drewN | apply Kd.R_drew)); exact HN.out) hb)
       have n3_ := Aside0.mk (below_step (by repeat (first | (with_reducible first | exact HB.out | apply below_alloc | apply pw_below_drewN | apply below_drew1) | exact HB.out)) hb)
       clear BG HL HN HB hc1 hc2 hc3 hc4 hvl hvn; have BG := n0_; have HL := n1_; have HN := n2_; have HB := n3_; clear n0_ n1_ n2_ n3_ hb))
    all_goals (
      go_wp2
      go_meet
      exact ⟨rfl, ⟨by (with_reducible repeat (first | refine blk_drewN ?_ _ | refine blk_drew ?_ | refine blk_alloc ?_ _)); exact BG.out⟩, ⟨by (with_reducible repeat (first | apply Kd.R_alloc | apply Kd.R_drewN | apply Kd.R_drew)); exact HL.out⟩, ⟨by (with_reducible repeat (first | apply Kd.R_alloc | apply Kd.R_drewN | apply Kd.R_drew)); exact HN.out⟩, ⟨by repeat (first | (with_reducible first | exact HB.out | apply below_alloc | apply pw_below_drewN | apply below_drew1) | exact HB.out)⟩⟩)
  case rest =>
    clear BG HL HN HB hc1 hc2 hc3 hc4 hvl hvn
    obtain ⟨rfl, BG, HL, HN, HB⟩ := hcut
    have hc1 : wc.cell? ⟨g, 1, none⟩ = some (.slice Al last.length cl) := (blk_cell BG.out 1).trans rfl
    have hc2 : wc.cell? ⟨g, 2, none⟩ = some (.slice An now.length cn) := (blk_cell BG.out 2).trans rfl
    have hc3 : wc.cell? ⟨g, 3, none⟩ = some (.bool true) := (blk_cell BG.out 3).trans rfl
    have hc4 : wc.cell? ⟨g, 4, none⟩ = some (.int .i64 0) := (blk_cell BG.out 4).trans rfl
    have hf1 : wc.frozen? ⟨g, 1, none⟩ = false := blk_frozen BG.out 1
    have hf2 : wc.frozen? ⟨g, 2, none⟩ = false := blk_frozen BG.out 2
    have hf3 : wc.frozen? ⟨g, 3, none⟩ = false := blk_frozen BG.out 3
    have hf4 : wc.frozen? ⟨g, 4, none⟩ = false := blk_frozen BG.out 4
    go_wp2
    go_region
    go_wp2
    go_ret
    exact ⟨rfl, by first | exact (So.turn BG.out GE.out HL.out HN.out HP.out).drew.drew | exact (So.turn BG.out GE.out HL.out HN.out HP.out).drew, by repeat (first | (with_reducible first | exact HB.out | apply below_alloc | apply pw_below_drewN | apply below_drew1 | refine below_set ?_ GE.out) | exact HB.out)⟩
set_option maxHeartbeats 4000000 in
set_option maxRecDepth 100000 in
theorem end_bad (k : Nat) (g : Nat) (most : Int) (last now : List Int) (c : Int) (w0 w : World) (hB : Below w0.heap.size w0 w) (hS : So w0 w g most last now true 0) (h : order_Compare.f k (strOfNums last) (strOfNums now) = some c) (hc : 0 < c) :
    Calls Try.prog 15 #[.pointer (some ⟨g, 0, none⟩)] w fun e w' => e = .returned (.int .i64 9) ∧ So w0 w' g most last now true 9 ∧ Below w0.heap.size w0 w' := by
  have HB := Aside0.mk hB
  have HC := Aside0.mk h
  obtain ⟨vl, vn, hb0, hge, hl, hn, hap⟩ := hS
  obtain ⟨An, cn, rfl⟩ := Kd.R_slice hn
  obtain ⟨Al, cl, rfl⟩ := Kd.R_slice hl
  have BG := Aside0.mk hb0
  have HL := Aside0.mk hl
  have HN := Aside0.mk hn
  have HP := Aside0.mk hap
  have GE := Aside0.mk hge
  have hc1 : w.cell? ⟨g, 1, none⟩ = some (.slice Al last.length cl) := (blk_cell hb0 1).trans rfl
  have hc2 : w.cell? ⟨g, 2, none⟩ = some (.slice An now.length cn) := (blk_cell hb0 2).trans rfl
  have hc3 : w.cell? ⟨g, 3, none⟩ = some (.bool true) := (blk_cell hb0 3).trans rfl
  have hc4 : w.cell? ⟨g, 4, none⟩ = some (.int .i64 0) := (blk_cell hb0 4).trans rfl
  have hvl := own_string (P := Try.prog) Try.underlying45 Try.underlying5 Try.underlying9 (Kd.own_of_R (Kd.R_drew hl))
  have hvn := own_string (P := Try.prog) Try.underlying45 Try.underlying5 Try.underlying9 (Kd.own_of_R (Kd.R_drew hn))
  have hd1 : decide (0 < c) = true := by simp; omega
  clear hB hb0 hl hn hap hge h
  go_enter Try.func15, Try.ntmps15
  go_upto_region 3 with (fail)
  go_cut [29] (fun v29 wc => v29 = .bool true ∧ Aside0 (wc.heap[g]? = some (.cells #[.int .i64 most, .slice Al last.length cl, .slice An now.length cn, .bool true, .int .i64 0] 47 (0, 0))) ∧ Aside0 ((Kd.int .u8).R 5 wc w0.heap.size (fun _ => True) (.slice Al last.length cl) last) ∧ Aside0 ((Kd.int .u8).R 5 wc w0.heap.size (fun _ => True) (.slice An now.length cn) now) ∧ Aside0 (Below w0.heap.size w0 wc))
  case first =>
    go_region_with (first
    | (
       go_at_call 9
       (with_reducible refine (order_Compare.calls k (strOfNums last) (strOfNums now) c _ HC.out).mono ?_)
       rintro e w2 ⟨rfl, hb⟩
       have n0_ := Aside0.mk (blk_below (by (with_reducible repeat (first | refine blk_drewN ?_ _ | refine blk_drew ?_ | refine blk_alloc ?_ _)); exact BG.out) hb)
       have n1_ := Aside0.mk (Kd.R_below (by (with_reducible repeat (first | apply Kd.R_alloc | apply Kd.R_drewN | apply Kd.R_drew)); exact HL.out) hb)
       have n2_ := Aside0.mk (Kd.R_below (by (with_reducible repeat (first | apply Kd.R_alloc | apply Kd.R_drewN | apply Kd.R_drew)); exact HN.out) hb)
       have n3_ := Aside0.mk (below_step (by repeat (first | (with_reducible first | exact HB.out | apply below_alloc | apply pw_below_drewN | apply below_drew1) | exact HB.out)) hb)
       clear BG HL HN HB hc1 hc2 hc3 hc4 hvl hvn; have BG := n0_; have HL := n1_; have HN := n2_; have HB := n3_; clear n0_ n1_ n2_ n3_ hb))
    all_goals (
      go_wp2
      go_meet
      exact ⟨rfl, ⟨by (with_reducible repeat (first | refine blk_drewN ?_ _ | refine blk_drew ?_ | refine blk_alloc ?_ _)); exact BG.out⟩, ⟨by (with_reducible repeat (first | apply Kd.R_alloc | apply Kd.R_drewN | apply Kd.R_drew)); exact HL.out⟩, ⟨by (with_reducible repeat (first | apply Kd.R_alloc | apply Kd.R_drewN | apply Kd.R_drew)); exact HN.out⟩, ⟨by repeat (first | (with_reducible first | exact HB.out | apply below_alloc | apply pw_below_drewN | apply below_drew1) | exact HB.out)⟩⟩)
  case rest =>
    clear BG HL HN HB hc1 hc2 hc3 hc4 hvl hvn
    obtain ⟨rfl, BG, HL, HN, HB⟩ := hcut
    have hc1 : wc.cell? ⟨g, 1, none⟩ = some (.slice Al last.length cl) := (blk_cell BG.out 1).trans rfl
    have hc2 : wc.cell? ⟨g, 2, none⟩ = some (.slice An now.length cn) := (blk_cell BG.out 2).trans rfl
    have hc3 : wc.cell? ⟨g, 3, none⟩ = some (.bool true) := (blk_cell BG.out 3).trans rfl
    have hc4 : wc.cell? ⟨g, 4, none⟩ = some (.int .i64 0) := (blk_cell BG.out 4).trans rfl
    have hf1 : wc.frozen? ⟨g, 1, none⟩ = false := blk_frozen BG.out 1
    have hf2 : wc.frozen? ⟨g, 2, none⟩ = false := blk_frozen BG.out 2
    have hf3 : wc.frozen? ⟨g, 3, none⟩ = false := blk_frozen BG.out 3
    have hf4 : wc.frozen? ⟨g, 4, none⟩ = false := blk_frozen BG.out 4
    go_wp2
    go_ret
    exact ⟨rfl, by (try apply So.drew); exact ⟨_, _, blk_put (cs := #[.int .i64 most, .slice Al last.length cl, .slice An now.length cn, .bool true, .int .i64 0]) BG.out 4 _ rfl, GE.out, Kd.R_set HL.out BG.out (by decide) 4 _, Kd.R_set HN.out BG.out (by decide) 4 _, HP.out⟩, by repeat (first | (with_reducible first | exact HB.out | apply below_alloc | apply pw_below_drewN | apply below_drew1 | refine below_set ?_ GE.out) | exact HB.out)⟩
end Go.Proofs.Ytpiejdncoeldeaa.Hand
namespace Go.Proofs.Ytpiejdncoeldeaa.Hand
open Go.RowKit Go.Proofs.Ytpiejdncoeldeaa.PA Go.Proofs.YtpiejdncoeldeaaW.PrintWords Go.Proofs.YtpiejdncoeldeaaW.PrintLast Go.Proofs.YtpiejdncoeldeaaW.PrintMore
set_option linter.unusedVariables false
theorem So.cleared {w0 w : World} {g : Nat} {most over : Int} {last now : List Int} {begun : Bool} {Al An : Option Addr} {cl cn : Nat} (hB : w.heap[g]? = some (.cells #[.int .i64 most, .slice Al last.length cl, .slice An now.length cn, .bool begun, .int .i64 over] 47 (0, 0)))
    (hg : w0.heap.size ≤ g) (hl : (Kd.int .u8).R 5 w w0.heap.size (fun _ => True) (.slice Al last.length cl) last) (hn : (Kd.int .u8).R 5 w w0.heap.size (fun _ => True) (.slice An now.length cn) now) (hp : ∀ k, (Value.slice An now.length cn).ownBlock = some k → some k ≠ (Value.slice Al last.length cl).ownBlock) :
    So w0 (((((w.setCell ⟨g, 0, none⟩ (.int .i64 most)).setCell ⟨g, 1, none⟩ (.slice Al 0 cl)).setCell ⟨g, 2, none⟩ (.slice An 0 cn)).setCell ⟨g, 3, none⟩ (.bool false)).setCell ⟨g, 4, none⟩ (.int .i64 0)) g most [] [] false 0 := by
  have b0 := blk_put hB 0 (.int .i64 most) rfl
  have b1 := blk_put b0 1 (.slice Al 0 cl) rfl
  have b2 := blk_put b1 2 (.slice An 0 cn) rfl
  have b3 := blk_put b2 3 (.bool false) rfl
  have b4 := blk_put b3 4 (.int .i64 0) rfl
  have l0 : (Kd.int .u8).R 5 w w0.heap.size (fun _ => True) (.slice Al 0 cl) [] := Kd.R_take hl (Nat.zero_le _)
  have n0 : (Kd.int .u8).R 5 w w0.heap.size (fun _ => True) (.slice An 0 cn) [] := Kd.R_take hn (Nat.zero_le _)
  refine ⟨_, _, b4, hg, Kd.R_set (Kd.R_set (Kd.R_set (Kd.R_set (Kd.R_set l0 hB (by decide) 0 _) b0 (by decide) 1 _) b1 (by decide) 2 _) b2 (by decide) 3 _) b3 (by decide) 4 _, Kd.R_set (Kd.R_set (Kd.R_set (Kd.R_set (Kd.R_set n0 hB (by decide) 0 _) b0 (by decide) 1 _) b1 (by decide) 2 _) b2 (by decide) 3 _) b3 (by decide) 4 _, ?_⟩
  intro k hk
  cases An with
  | none => cases hk
  | some a =>
    cases Al with
    | none => intro e; cases e
    | some a2 => exact hp k hk
set_option maxHeartbeats 4000000 in
set_option maxRecDepth 100000 in
theorem reset_any (g : Nat) (most : Int) (last now : List Int) (begun : Bool) (over : Int) (w0 w : World) (hB : Below w0.heap.size w0 w) (hS : So w0 w g most last now begun over) :
    Calls Try.prog 17 #[.pointer (some ⟨g, 0, none⟩)] w fun e w' => e = .returned (.tuple #[]) ∧ So w0 w' g most [] [] false 0 ∧ Below w0.heap.size w0 w' := by
  have HB := Aside0.mk hB
  obtain ⟨vl, vn, hb0, hge, hl, hn, hap⟩ := hS
  obtain ⟨An, cn, rfl⟩ := Kd.R_slice hn
  obtain ⟨Al, cl, rfl⟩ := Kd.R_slice hl
  have BG := Aside0.mk hb0
  have HL := Aside0.mk hl
  have HN := Aside0.mk hn
  have HP := Aside0.mk hap
  have GE := Aside0.mk hge
  have hc0 : w.cell? ⟨g, 0, none⟩ = some (.int .i64 most) := (blk_cell hb0 0).trans rfl
  have hc1 : w.cell? ⟨g, 1, none⟩ = some (.slice Al last.length cl) := (blk_cell hb0 1).trans rfl
  have hc2 : w.cell? ⟨g, 2, none⟩ = some (.slice An now.length cn) := (blk_cell hb0 2).trans rfl
  have hc3 : w.cell? ⟨g, 3, none⟩ = some (.bool begun) := (blk_cell hb0 3).trans rfl
  have hc4 : w.cell? ⟨g, 4, none⟩ = some (.int .i64 over) := (blk_cell hb0 4).trans rfl
  have hf0 : w.frozen? ⟨g, 0, none⟩ = false := blk_frozen hb0 0
  have hf1 : w.frozen? ⟨g, 1, none⟩ = false := blk_frozen hb0 1
  have hf2 : w.frozen? ⟨g, 2, none⟩ = false := blk_frozen hb0 2
  have hf3 : w.frozen? ⟨g, 3, none⟩ = false := blk_frozen hb0 3
  have hf4 : w.frozen? ⟨g, 4, none⟩ = false := blk_frozen hb0 4
  clear hB hb0 hl hn hap hge
  go_enter Try.func17, Try.ntmps17
  go_wp2
  go_region
  go_end0
  exact ⟨rfl, (So.cleared BG.out GE.out HL.out HN.out HP.out).drew, by repeat (first | (with_reducible first | exact HB.out | apply below_alloc | apply pw_below_drewN | apply below_drew1 | refine below_set ?_ GE.out) | exact HB.out)⟩
set_option maxHeartbeats 8000000 in
set_option maxRecDepth 100000 in
theorem new_any (a0 : Int) (w0 w : World) (hB : Below w0.heap.size w0 w) :
    Calls Try.prog 11 #[.int .i64 a0] w fun e w' => ∃ g : Nat, e = .returned (.pointer (some ⟨g, 0, none⟩)) ∧ So w0 w' g (mn (mx a0 0) 65536) [] [] false 0 ∧ Below w0.heap.size w0 w' := by
  have hu47 := Try.underlying47
  have HW0 := Aside0.mk hB.size
  have HB := Aside0.mk hB
  clear hB
  obtain ⟨ji2, hji2⟩ : ∃ j_ : Int, (mx a0 0) = j_ := ⟨_, rfl⟩
  rw [hji2]
  have hji2l : 0 ≤ ji2 := by (rw [← hji2]; unfold mx; (repeat' split) <;> omega)
  have hji2_ : (if a0 < 0 then 0 else a0) = ji2 := hji2
  obtain ⟨ji3, hji3⟩ : ∃ j_ : Int, (mn (ji2) 65536) = j_ := ⟨_, rfl⟩
  rw [hji3]
  have hji3_ : (if 65536 < (ji2) then 65536 else (ji2)) = ji3 := hji3
  go_enter Try.func11, Try.ntmps11
  go_wp2_with (first
    | ((with_reducible refine gate_dst (N := 7) rfl ?_); refine box_event ?hg (N := 7) ?hd (cs := #[.int .i64 ji3, .slice none 0 0, .slice none 0 0, .bool false, .int .i64 0]) (t := 47) ?hr ?_; (case hd => rfl); (case hg => rfl); (case hr => first | (go_simp; done) | (go_simp; rfl)); intro gb hg w4 hbox hb
       have n1_ := Aside0.mk (below_step (by repeat (first | (with_reducible first | exact HB.out | apply below_alloc | apply pw_below_drewN | apply below_drew1) | exact HB.out)) hb); have n2_ := Aside0.mk hbox
       have n3_ := Aside0.mk ((by rw [hg]; exact (below_size (by repeat (first | (with_reducible first | exact HB.out | apply below_alloc | apply pw_below_drewN | apply below_drew1) | exact HB.out)))) : w0.heap.size ≤ gb)
       clear HB; have HB := n1_; have BK := n2_; have GE := n3_; clear n1_ n2_ n3_; clear hb hbox hg))
  go_ret
  exact ⟨_, rfl, ⟨.slice none 0 0, .slice none 0 0, by (with_reducible repeat (first | refine blk_drewN ?_ _ | refine blk_drew ?_ | refine blk_alloc ?_ _)); exact BK.out, GE.out, Kd.R_nil _ _ _ _ _, Kd.R_nil _ _ _ _ _, fun k hk => by simp [Value.ownBlock] at hk⟩, by repeat (first | (with_reducible first | exact HB.out | apply below_alloc | apply pw_below_drewN | apply below_drew1 | refine below_set ?_ GE.out) | exact HB.out)⟩
end Go.Proofs.Ytpiejdncoeldeaa.Hand
namespace Go.Proofs.Ytpiejdncoeldeaa.Hand
open Go.RowKit Go.Proofs.Ytpiejdncoeldeaa.PA Go.Proofs.YtpiejdncoeldeaaW.PrintWords Go.Proofs.YtpiejdncoeldeaaW.PrintLast Go.Proofs.YtpiejdncoeldeaaW.PrintMore
set_option linter.unusedVariables false
set_option maxHeartbeats 8000000 in
set_option maxRecDepth 100000 in
theorem awake_any (w : World) :
    Calls Try.prog 8 #[] w fun e w' => e = .returned (.bool true) ∧ Below w.heap.size w w' := by
  have HB := Aside0.mk (Below.refl w.heap.size w)
  have k1 : order_Compare.f 20 (strOfNums [2]) (strOfNums [1]) = some 1 := by decide +kernel
  have k2 : order_Compare.f 20 (⟨#[1]⟩ : ByteArray) (⟨#[1, 0]⟩ : ByteArray) = some 0 := by decide +kernel
  have k3 : order_Compare.f 20 (⟨#[1, 1]⟩ : ByteArray) (⟨#[1]⟩ : ByteArray) = some 1 := by decide +kernel
  have K1 := Aside0.mk k1
  have K2 := Aside0.mk k2
  have K3 := Aside0.mk k3
  clear k1 k2 k3
  have hm : mn (mx 2 0) 65536 = 2 := by decide
  go_enter Try.func8, Try.ntmps8
  go_wp2_with (first
    | (
       go_at_call 11
       (with_reducible refine (new_any 2 w _ HB.out).mono ?_)
       rintro e w1 ⟨g, rfl, hs, hb⟩
       rw [hm] at hs
       clear HB hm; have S := Aside0.mk hs; have HB := Aside0.mk hb; clear hs hb)
    | (
       go_at_call 13
       (with_reducible first
         | refine (push_more g 2 [] [] false 2 w _ HB.out S.out (by decide) (by decide)).mono ?_
         | refine (push_more g 2 [2] [] true 1 w _ HB.out S.out (by decide) (by decide)).mono ?_
         | refine (push_over g 2 [2] [1] true 9 9 w _ HB.out S.out (by decide)).mono ?_
         | refine (push_more g 2 [] [] false 1 w _ HB.out S.out (by decide) (by decide)).mono ?_
         | refine (push_more g 2 [] [1] false 1 w _ HB.out S.out (by decide) (by decide)).mono ?_
         | refine (push_full g 2 [] [1, 1] false 1 w _ HB.out S.out (by decide)).mono ?_)
       rintro e w1 ⟨rfl, hs, hb⟩
       clear HB S; have S := Aside0.mk hs; have HB := Aside0.mk hb; clear hs hb
       (try simp only [List.nil_append, List.cons_append] at S))
    | (
       go_at_call 15
       (with_reducible first
         | refine (end_first g 2 [] [2] w _ HB.out S.out).mono ?_
         | refine (end_bad 20 g 2 [2] [1] 1 w _ HB.out S.out K1.out (by decide)).mono ?_)
       rintro e w1 ⟨rfl, hs, hb⟩
       clear HB S; have S := Aside0.mk hs; have HB := Aside0.mk hb; clear hs hb)
    | (
       go_at_call 17
       (with_reducible refine (reset_any g 2 [2] [1] true 9 w _ HB.out S.out).mono ?_)
       rintro e w1 ⟨rfl, hs, hb⟩
       clear HB S; have S := Aside0.mk hs; have HB := Aside0.mk hb; clear hs hb)
    | (
       go_at_call 9
       (with_reducible first
         | refine (order_Compare.calls 20 (⟨#[1]⟩ : ByteArray) (⟨#[1, 0]⟩ : ByteArray) 0 _ K2.out).mono ?_
         | refine (order_Compare.calls 20 (⟨#[1, 1]⟩ : ByteArray) (⟨#[1]⟩ : ByteArray) 1 _ K3.out).mono ?_)
       rintro e w1 ⟨rfl, hb⟩
       have n0_ := Aside0.mk (below_step (by repeat (first | (with_reducible first | exact HB.out | apply below_alloc | apply pw_below_drewN | apply below_drew1) | exact HB.out)) hb)
       clear HB hb; have HB := n0_; clear n0_))
  go_ret
  exact ⟨rfl, by repeat (first | (with_reducible first | exact HB.out | apply below_alloc | apply pw_below_drewN | apply below_drew1) | exact HB.out)⟩
end Go.Proofs.Ytpiejdncoeldeaa.Hand
