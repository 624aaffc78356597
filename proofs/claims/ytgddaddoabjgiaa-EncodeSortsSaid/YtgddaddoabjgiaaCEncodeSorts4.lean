/- What the row of EncodeSorts stands on, made small by a program of this session (pack.py). -/
import Derived.Test.YtgddaddoabjgiaaCEncodeSorts2
import Derived.Test.YtgddaddoabjgiaaCEncodeSorts3
namespace Go.Proofs.Ytgddaddoabjgiaa.PA
open RowKit YtgddaddoabjgiaaW.PrintWords YtgddaddoabjgiaaW.PrintLast YtgddaddoabjgiaaW.PrintMore
attribute [local go_sem] max2_int min2_int max_two min_two max_three min_three max_four min_four
set_option linter.unusedVariables false
set_option linter.unusedSimpArgs false
mutual
def length_Put.j0 : Nat → Int → Bool → Option (ByteArray × Int)
 | 0, _, _ => none
 | k + 1, x0, x5 => if x5 = true then (some ((⟨#[]⟩ : ByteArray), 1)) else (if x0 < 128 then (some (strOfNums (([(x0) % 256] : List Int)), 0)) else (length_Put.l0 k x0 ([] : List Int)))
def length_Put.l0 : Nat → Int → List Int → Option (ByteArray × Int)
 | 0, _, _ => none
 | k + 1, x0, x4 => if x0 > 0 then ((some (([(x0) % 256] : List Int) : List Int)).bind fun y117 => (if y117.length + x4.length < 140737488355328 then (length_Put.l0 k (x0 / 256) (y117 ++ x4)) else (none))) else ((some (([Go.bits .or .u8 128 (((x4.length : Int)) % 256)] : List Int) : List Int)).bind fun y123 => (if (strOfNums y123).size + (strOfNums x4).size ≤ 9223372036854775807 then (some ((strOfNums y123) ++ (strOfNums x4), 0)) else (none)))
end
def length_Put.f (k : Nat) (a0 : Int) : Option (ByteArray × Int) := if a0 < 0 then (length_Put.j0 k a0 true) else (length_Put.j0 k a0 (decide (a0 > 2305843009213693951)))
set_option maxHeartbeats 8000000 in
set_option maxRecDepth 100000 in
theorem length_Put.calls (k : Nat) (a0 : Int) (r1 : ByteArray) (r2 : Int) (w : World) (h : length_Put.f k a0 = some (r1, r2)) :
 Calls Try.prog 63 #[.int .i64 a0] w fun e w' => e = .returned (.tuple #[.string r1, .int .i64 r2]) ∧ Below w.heap.size w w' := by
 have HB := Aside0.mk (Below.refl w.heap.size w)
 have H : (if a0 < 0 then (length_Put.j0 k a0 true) else (length_Put.j0 k a0 (decide (a0 > 2305843009213693951)))) = some (r1, r2) := h
 clear h
 have HC2 := Aside0.mk H
 clear H
 go_enter Try.func63, Try.ntmps63
 go_upto_region 1 with (fail)
 go_cut [5] (fun v5 wc => ∃ (kq : Nat) (x5_1 : Bool), v5 = .bool x5_1 ∧ Aside0 (length_Put.j0 kq a0 x5_1 = some (r1, r2)) ∧ Aside0 (kq ≤ k) ∧ Aside0 (Below w.heap.size w wc))
 case first =>
  have H := HC2.out
  clear HC2
  by_cases c3 : a0 < 0
  ·
   rw [if_pos c3] at H
   have c3b0 : decide (a0 < 0) = true := decide_eq_true c3
   clear c3
   (first | rw [c3b0] | (simp only [i64_w, i32_w]; rw [c3b0]) | skip)
   have H' := Aside0.mk H
   clear H
   go_wp2
   go_meet
   case rel => exact ⟨_, (true), zz0, H', ⟨zz28⟩, ⟨zz1⟩⟩
  ·
   rw [if_neg c3] at H
   have c3b0 : decide (a0 < 0) = false := decide_eq_false c3
   clear c3
   (first | rw [c3b0] | (simp only [i64_w, i32_w]; rw [c3b0]) | skip)
   have H' := Aside0.mk H
   clear H
   go_wp2
   go_meet
   case rel => exact ⟨_, (decide (a0 > 2305843009213693951)), zz0, H', ⟨zz28⟩, ⟨zz1⟩⟩
 case rest =>
  clear HC2
  try clear p2
  try clear c3
  try clear c3b0
  obtain ⟨kq, x5_1, rfl, HA, HJ1, HB⟩ := hcut
  cases kq with
  | zero => exact absurd HA.out (by simp [length_Put.j0])
  | succ kj1 =>
    have H := HA.out
    clear HA
    simp only [length_Put.j0] at H
    by_cases c4 : x5_1 = true
    ·
     subst c4
     have H1 : (some ((⟨#[]⟩ : ByteArray), 1)) = some (r1, r2) := by rw [if_pos rfl] at H; exact H
     clear H
     have H := H1
     clear H1
     simp only [Option.some.injEq, Prod.mk.injEq] at H
     obtain ⟨rfl, rfl⟩ := H
     go_wp2
     go_ret2
     exact ⟨zz3, zz1⟩
    ·
     replace c4 := Bool.eq_false_iff.mpr c4
     subst c4
     have H1 : (if a0 < 128 then (some (strOfNums (([(a0) % 256] : List Int)), 0)) else (length_Put.l0 kj1 a0 ([] : List Int))) = some (r1, r2) := by rw [if_neg (show ¬ (false = true) by decide)] at H; exact H
     clear H
     have H := H1
     clear H1
     by_cases c5 : a0 < 128
     ·
      rw [if_pos c5] at H
      have c5b0 : decide (a0 < 128) = true := decide_eq_true c5
      clear c5
      obtain ⟨y114, hy114⟩ : ∃ y_ : List Int, y_ = (([(a0) % 256] : List Int)) := ⟨_, rfl⟩
      replace H : (some (strOfNums y114, 0)) = some (r1, r2) := by first | (rw [hy114]; with_reducible exact H) | (have H2_ := (Option.bind_some _ _).symm.trans H; rw [hy114]; with_reducible exact H2_) | (have H2_ := (Option.bind_some _ _).symm.trans H; with_reducible exact H2_) | with_reducible exact H | (rw [hy114]; exact H) | exact H
      have Ny114 := Aside0.mk hy114
      clear hy114
      simp only [Option.some.injEq, Prod.mk.injEq] at H
      obtain ⟨rfl, rfl⟩ := H
      go_wp2_with (first | ((with_reducible refine gate_dst (N := 17) rfl ?_); refine Kd.R_lit (Kd.int .u8) _ 5 ?hg (N := 17) ?hd (xs := ([(a0) % 256] : List Int)) (inner := [.int .u8 ((a0) % 256)]) (ok := fun _ => True) (okp := fun _ => True) ?hr ?hp (fun _ hk => hk) trivial (Below.refl _ _) (Nat.le_refl _) zz43 ?_; (case hd => rfl); (case hg => rfl); (case hr => first | (go_simp; done) | (go_simp; rfl)); (case hp => exact (Reps.one (show Kd.M (Kd.int .u8) _ _ _ ((a0) % 256) [.int .u8 ((a0) % 256)] from rfl) (Reps.none _ _))); intro v115 w6 ho7 hb hg_ hnew_; clear hg_ hnew_; (first | rw [← Ny114.out] at ho7 | (simp only [Int.reduceToNat] at ho7; rw [← Ny114.out] at ho7)); have n0_ := Aside0.mk (Kd.R_lower ho7 (below_size zz1)); have n1_ := Aside0.mk (below_step zz1 hb); clear HB; have HO116 := n0_; have HB := n1_; clear n0_ n1_; clear hb ho7; have hcv8 := own_string (P := Try.prog) Try.underlying76 Try.underlying5 Try.underlying9 (Kd.own_of_R HO116.out)))
      go_ret2
      exact ⟨zz3, zz1⟩
     ·
      rw [if_neg c5] at H
      have c5b0 : decide (a0 < 128) = false := decide_eq_false c5
      clear c5
      have H' := Aside0.mk H
      clear H
      go_wp2
      go_loopg [0, 4] kj1 (fun kq v0 v4 w' => ∃ (x0_2 : Int) (x4_2 : List Int), v0 = .int .i64 x0_2 ∧ Aside0 (length_Put.l0 kq x0_2 x4_2 = some (r1, r2)) ∧ Aside0 (kq ≤ kj1) ∧ Aside0 (Kd.R (Kd.int .u8) 5 w' w.heap.size (fun _ => True) v4 x4_2) ∧ Aside0 (Below w.heap.size w w'))
      case atStart => exact ⟨(a0), (([] : List Int)), zz0, H', ⟨Nat.le_refl _⟩, ⟨by first | exact Kd.R_nil _ _ _ _ _ | exact Kd.N_nil _ _ _ _ _ | exact Kd.V_nil _ _ _ _ _ | exact Kd.Q_nil _ _ _ _ _ | exact Kd.S_nil _ _ _ _ _⟩, ⟨zz1⟩⟩
      case round =>
       clear H'
       try clear p2
       try clear c3
       try clear c3b0
       try clear c4
       try clear c5
       try clear c5b0
       try clear c6
       try clear hcv8
       try clear p2
       obtain ⟨x0_2, x4_2, rfl, HA, HK2, HO_4, HB⟩ := hrel
       cases gk with
       | zero => exact absurd HA.out (by simp [length_Put.l0])
       | succ k2 =>
         have H := HA.out
         clear HA
         simp only [length_Put.l0] at H
         by_cases c9 : x0_2 > 0
         ·
          rw [if_pos c9] at H
          have c9b0 : decide (0 < x0_2) = true := decide_eq_true c9
          clear c9
          obtain ⟨y117, hy117⟩ : ∃ y_ : List Int, y_ = (([(x0_2) % 256] : List Int)) := ⟨_, rfl⟩
          replace H : (if y117.length + x4_2.length < 140737488355328 then (length_Put.l0 k2 (x0_2 / 256) (y117 ++ x4_2)) else (none)) = some (r1, r2) := by first | (rw [hy117]; with_reducible exact H) | (have H2_ := (Option.bind_some _ _).symm.trans H; rw [hy117]; with_reducible exact H2_) | (have H2_ := (Option.bind_some _ _).symm.trans H; with_reducible exact H2_) | with_reducible exact H | (rw [hy117]; exact H) | exact H
          have Ny117 := Aside0.mk hy117
          clear hy117
          by_cases c10 : y117.length + x4_2.length < 140737488355328
          ·
           rw [if_pos c10] at H
           have LMc10 := Aside0.mk c10
           clear c10
           obtain ⟨y120, hy120⟩ : ∃ y_ : List Int, y_ = (y117 ++ x4_2) := ⟨_, rfl⟩
           replace H : (length_Put.l0 k2 (x0_2 / 256) y120) = some (r1, r2) := by first | (rw [hy120]; with_reducible exact H) | (have H2_ := (Option.bind_some _ _).symm.trans H; rw [hy120]; with_reducible exact H2_) | (have H2_ := (Option.bind_some _ _).symm.trans H; with_reducible exact H2_) | with_reducible exact H | (rw [hy120]; exact H) | exact H
           have Ny120 := Aside0.mk hy120
           clear hy120
           have H' := Aside0.mk H
           clear H
           go_wp2_with (first | ((with_reducible refine gate_dst (N := 25) rfl ?_); refine Kd.R_lit (Kd.int .u8) _ 5 ?hg (N := 25) ?hd (xs := ([(x0_2) % 256] : List Int)) (inner := [.int .u8 ((x0_2) % 256)]) (ok := fun _ => True) (okp := fun _ => True) ?hr ?hp (fun _ hk => hk) trivial (Below.refl _ _) (Nat.le_refl _) zz43 ?_; (case hd => rfl); (case hg => rfl); (case hr => first | (go_simp; done) | (go_simp; rfl)); (case hp => exact (Reps.one (show Kd.M (Kd.int .u8) _ _ _ ((x0_2) % 256) [.int .u8 ((x0_2) % 256)] from rfl) (Reps.none _ _))); intro v118 w11 ho12 hb hg_ hnew_; clear hg_ hnew_; (first | rw [← Ny117.out] at ho12 | (simp only [Int.reduceToNat] at ho12; rw [← Ny117.out] at ho12)); have n0_ := Aside0.mk (Kd.R_elder' zz42 (Kd.R_base ho12) hb); have n1_ := Aside0.mk (Kd.R_lower (Kd.R_new' ho12 (Kd.R_lt zz42)) (below_size zz1)); have n2_ := Aside0.mk (below_step zz1 hb); clear HO_4; clear HB; have HO_4 := n0_; have HO119 := n1_; have HB := n2_; clear n0_ n1_ n2_; clear hb ho12; obtain ⟨Ao14, co14, eo14⟩ := Kd.R_slice HO_4.out; subst eo14) | ((with_reducible refine gate_builtin (b := .append) (xs := #[.tmp 25, .tmp 26]) rfl ?_); at_builtin; refine Kd.R_append_rows (Kd.int .u8) (w0 := w) w.heap.size rfl (.tmp 25) (.tmp 26) 76 5 (.int .u8 0) 1 rfl Try.underlying76 info5 rfl zz13 zz7 v118 y117 x4_2 _ _ _ (fun k_ => some k_ ≠ (.slice Ao14 x4_2.length co14 : Value).ownBlock) (fun _ => False) rfl rfl ?aO ?aR (fun _ _ h => h) (fun _ h => h.elim) ?aF ?aB ?aS ?aL ?_; (case aR => repeat (first | exact (Kd.R_reads' HO_4.out).2.2 | (with_reducible refine Kd.C_alloc ?_ _) | (with_reducible refine Kd.C_drewN ?_ _) | (with_reducible refine Kd.C_drew ?_))); (case aB => exact zz1); (case aF => exact (fun k_ hk => Kd.fresh' (Kd.R_lt zz42) k_ hk)); (case aO => exact (by (with_reducible repeat (first | apply Kd.R_alloc | apply Kd.R_drewN | apply Kd.R_drew)); exact Kd.R_mono HO119.out (fun _ hk => hk.2))); (case aS => exact (below_size zz1)); (case aL => have := LMc10.out; omega); intro v121 w13 ho hb hg hat; rw [← Ny120.out] at ho; have n0_ := Aside0.mk (Kd.R_after (ok := (fun _ => True)) zz42 hg hat); have n1_ := Aside0.mk (hb); have n2_ := Aside0.mk (ho); clear HO_4; clear HB; clear HO119; have HO_4 := n0_; have HB := n1_; have HO122 := n2_; clear n0_ n1_ n2_; clear ho hb hg hat))
           go_roundg k2
           case measure => have := HJ1.out; have := HK2.out; omega
           case rel => exact ⟨(x0_2 / 256), (y120), zz0, H', ⟨by have := HJ1.out; have := HK2.out; omega⟩, ⟨by (with_reducible repeat (first | apply Kd.R_alloc | apply Kd.R_drewN | apply Kd.R_drew)); exact Kd.R_mono HO122.out (fun _ hk => trivial)⟩, ⟨zz1⟩⟩
          ·
           rw [if_neg c10] at H
           exact absurd H zz43
         ·
          rw [if_neg c9] at H
          have c9b0 : decide (0 < x0_2) = false := decide_eq_false c9
          clear c9
          obtain ⟨y123, hy123⟩ : ∃ y_ : List Int, y_ = (([Go.bits .or .u8 128 (((x4_2.length : Int)) % 256)] : List Int)) := ⟨_, rfl⟩
          replace H : (if (strOfNums y123).size + (strOfNums x4_2).size ≤ 9223372036854775807 then (some ((strOfNums y123) ++ (strOfNums x4_2), 0)) else (none)) = some (r1, r2) := by first | (rw [hy123]; with_reducible exact H) | (have H2_ := (Option.bind_some _ _).symm.trans H; rw [hy123]; with_reducible exact H2_) | (have H2_ := (Option.bind_some _ _).symm.trans H; with_reducible exact H2_) | with_reducible exact H | (rw [hy123]; exact H) | exact H
          have Ny123 := Aside0.mk hy123
          clear hy123
          by_cases c15 : (strOfNums y123).size + (strOfNums x4_2).size ≤ 9223372036854775807
          ·
           rw [if_pos c15] at H
           have c15b0 := eq_true c15
           have c15b1 : decide ((strOfNums y123).size + (strOfNums x4_2).size ≤ 9223372036854775807) = true := decide_eq_true c15
           try have c15b2 : (9223372036854775807 < (strOfNums y123).size + (strOfNums x4_2).size) = False := eq_false (Nat.not_lt.2 c15)
           simp only [Option.some.injEq, Prod.mk.injEq] at H
           obtain ⟨rfl, rfl⟩ := H
           obtain ⟨Ao16, co16, eo16⟩ := Kd.R_slice HO_4.out
           subst eo16
           go_wp2_with (first | ((with_reducible refine gate_dst (N := 32) rfl ?_); refine Kd.R_lit (Kd.int .u8) _ 5 ?hg (N := 32) ?hd (xs := ([Go.bits .or .u8 128 (((x4_2.length : Int)) % 256)] : List Int)) (inner := [.int .u8 (Go.bits .or .u8 128 (((x4_2.length : Int)) % 256))]) (ok := fun _ => True) (okp := fun _ => True) ?hr ?hp (fun _ hk => hk) trivial (Below.refl _ _) (Nat.le_refl _) zz43 ?_; (case hd => rfl); (case hg => rfl); (case hr => first | (go_simp; done) | (go_simp; rfl)); (case hp => exact (Reps.one (show Kd.M (Kd.int .u8) _ _ _ (Go.bits .or .u8 128 (((x4_2.length : Int)) % 256)) [.int .u8 (Go.bits .or .u8 128 (((x4_2.length : Int)) % 256))] from rfl) (Reps.none _ _))); intro v124 w17 ho18 hb hg_ hnew_; clear hg_ hnew_; (first | rw [← Ny123.out] at ho18 | (simp only [Int.reduceToNat] at ho18; rw [← Ny123.out] at ho18)); have n0_ := Aside0.mk (Kd.R_elder' zz42 (Kd.R_base ho18) hb); have n1_ := Aside0.mk (Kd.R_lower (Kd.R_new' ho18 (Kd.R_lt zz42)) (below_size zz1)); have n2_ := Aside0.mk (below_step zz1 hb); clear HO_4; clear HB; have HO_4 := n0_; have HO125 := n1_; have HB := n2_; clear n0_ n1_ n2_; clear hb ho18; have hcv19 := own_string (P := Try.prog) Try.underlying76 Try.underlying5 Try.underlying9 (Kd.own_of_R HO125.out); have hcv20 := own_string (P := Try.prog) Try.underlying76 Try.underlying5 Try.underlying9 (Kd.own_of_R HO_4.out)))
           go_ret2
           exact ⟨zz3, zz1⟩
          ·
           rw [if_neg c15] at H
           exact absurd H zz43
def head_Put.f (k : Nat) (a0_0 : Int) (a0_1 : Int) (a0_2 : Bool) (a0_3 : Int) : Option (ByteArray × Int) := (ident_Put.f k a0_0 a0_1 a0_2 a0_3).bind fun bt127 => (if bt127.2 = 0 then ((length_Put.f k a0_3).bind fun bt129 => (if bt129.2 = 0 then (if bt127.1.size + bt129.1.size ≤ 9223372036854775807 then (some (bt127.1 ++ bt129.1, 0)) else (none)) else (some ((⟨#[]⟩ : ByteArray), bt129.2)))) else (some ((⟨#[]⟩ : ByteArray), bt127.2)))
set_option maxHeartbeats 8000000 in
set_option maxRecDepth 100000 in
theorem head_Put.calls (k : Nat) (a0_0 : Int) (a0_1 : Int) (a0_2 : Bool) (a0_3 : Int) (r1 : ByteArray) (r2 : Int) (w : World) (h : head_Put.f k a0_0 a0_1 a0_2 a0_3 = some (r1, r2)) :
 Calls Try.prog 43 #[.agg #[.int .i64 a0_0, .int .i64 a0_1, .bool a0_2, .int .i64 a0_3]] w fun e w' => e = .returned (.tuple #[.string r1, .int .i64 r2]) ∧ Below w.heap.size w w' := by
 have hu39 := Try.underlying39
 have HB := Aside0.mk (Below.refl w.heap.size w)
 have H : ((ident_Put.f k a0_0 a0_1 a0_2 a0_3).bind fun bt127 => (if bt127.2 = 0 then ((length_Put.f k a0_3).bind fun bt129 => (if bt129.2 = 0 then (if bt127.1.size + bt129.1.size ≤ 9223372036854775807 then (some (bt127.1 ++ bt129.1, 0)) else (none)) else (some ((⟨#[]⟩ : ByteArray), bt129.2)))) else (some ((⟨#[]⟩ : ByteArray), bt127.2)))) = some (r1, r2) := h
 clear h
 replace H := Option.bind_eq_some_iff.mp H
 obtain ⟨⟨t127, t128⟩, A20, H⟩ := H
 replace H : (if t128 = 0 then ((length_Put.f k a0_3).bind fun bt129 => (if bt129.2 = 0 then (if t127.size + bt129.1.size ≤ 9223372036854775807 then (some (t127 ++ bt129.1, 0)) else (none)) else (some ((⟨#[]⟩ : ByteArray), bt129.2)))) else (some ((⟨#[]⟩ : ByteArray), t128))) = some (r1, r2) := H
 have A2 := Aside0.mk A20
 clear A20
 by_cases c3 : t128 = 0
 ·
  rw [if_pos c3] at H
  have c3b0 : (t128 == 0) = true := beq_iff_eq.mpr c3
  have c3b1 : (t128 != 0) = false := bne_eq_false_iff_eq.mpr c3
  clear c3
  replace H := Option.bind_eq_some_iff.mp H
  obtain ⟨⟨t129, t130⟩, A40, H⟩ := H
  replace H : (if t130 = 0 then (if t127.size + t129.size ≤ 9223372036854775807 then (some (t127 ++ t129, 0)) else (none)) else (some ((⟨#[]⟩ : ByteArray), t130))) = some (r1, r2) := H
  have A4 := Aside0.mk A40
  clear A40
  by_cases c5 : t130 = 0
  ·
   rw [if_pos c5] at H
   have c5b0 : (t130 == 0) = true := beq_iff_eq.mpr c5
   have c5b1 : (t130 != 0) = false := bne_eq_false_iff_eq.mpr c5
   clear c5
   by_cases c6 : t127.size + t129.size ≤ 9223372036854775807
   ·
    rw [if_pos c6] at H
    have c6b0 := eq_true c6
    have c6b1 : decide (t127.size + t129.size ≤ 9223372036854775807) = true := decide_eq_true c6
    try have c6b2 : (9223372036854775807 < t127.size + t129.size) = False := eq_false (Nat.not_lt.2 c6)
    simp only [Option.some.injEq, Prod.mk.injEq] at H
    obtain ⟨rfl, rfl⟩ := H
    go_enter Try.func43, Try.ntmps43
    go_wp2_with (first | ((with_reducible refine gate_dst (N := 1) rfl ?_); refine zzbx (N := 1) (cs := #[.int .i64 a0_0, .int .i64 a0_1, .bool a0_2, .int .i64 a0_3]) (t := 39) ?_; intro gb126 hg w7 hbox hb; have n0_ := Aside0.mk (below_step zz1 hb); have n1_ := Aside0.mk (hbox); have n2_ := Aside0.mk ((zz15 : w.heap.size ≤ gb126)); have n3_ := Aside0.mk ((zz15 : w.heap.size ≤ gb126)); clear HB; have HB := n0_; have BK126 := n1_; have GW126 := n2_; have GE126 := n3_; clear n0_ n1_ n2_ n3_; clear hb hbox hg; have hcz8_0 : w7.cell? ⟨gb126, 0, none⟩ = some (.int .i64 a0_0) := (blk_cell BK126.out 0).trans rfl; have hcz8_1 : w7.cell? ⟨gb126, 1, none⟩ = some (.int .i64 a0_1) := (blk_cell BK126.out 1).trans rfl; have hcz8_2 : w7.cell? ⟨gb126, 2, none⟩ = some (.bool a0_2) := (blk_cell BK126.out 2).trans rfl; have hcz8_3 : w7.cell? ⟨gb126, 3, none⟩ = some (.int .i64 a0_3) := (blk_cell BK126.out 3).trans rfl; have hfz8_0 := blk_frozen BK126.out 0; have hfz8_1 := blk_frozen BK126.out 1; have hfz8_2 := blk_frozen BK126.out 2; have hfz8_3 := blk_frozen BK126.out 3) | ((with_reducible refine gate_callee (f := 62) rfl ?_); refine goesL_ (some 9) rfl rfl Try.func62 zz4 rfl #[.agg #[.int .i64 a0_0, .int .i64 a0_1, .bool a0_2, .int .i64 a0_3]] rfl zz5 ?_; (with_reducible refine (ident_Put.calls k a0_0 a0_1 a0_2 a0_3 t127 t128 _ A2.out).mono ?_); rintro e w9 ⟨rfl, hb⟩; refine ⟨_, rfl, ?_⟩; have n0_ := Aside0.mk (blk_below (g := gb126) (o := .cells #[.int .i64 a0_0, .int .i64 a0_1, .bool a0_2, .int .i64 a0_3] 39 (0, 0)) zz61 hb); have n1_ := Aside0.mk (below_step zz41 hb); clear BK126; clear HB; have BK126 := n0_; have HB := n1_; clear n0_ n1_; (try clear hb); (try clear hb2); (try clear hk); (try clear hi); have hcz10_0 : w9.cell? ⟨gb126, 0, none⟩ = some (.int .i64 a0_0) := (blk_cell BK126.out 0).trans rfl; have hcz10_1 : w9.cell? ⟨gb126, 1, none⟩ = some (.int .i64 a0_1) := (blk_cell BK126.out 1).trans rfl; have hcz10_2 : w9.cell? ⟨gb126, 2, none⟩ = some (.bool a0_2) := (blk_cell BK126.out 2).trans rfl; have hcz10_3 : w9.cell? ⟨gb126, 3, none⟩ = some (.int .i64 a0_3) := (blk_cell BK126.out 3).trans rfl; have hfz10_0 := blk_frozen BK126.out 0; have hfz10_1 := blk_frozen BK126.out 1; have hfz10_2 := blk_frozen BK126.out 2; have hfz10_3 := blk_frozen BK126.out 3) | ((with_reducible refine gate_callee (f := 63) rfl ?_); refine goesL_ (some 18) rfl rfl Try.func63 zz4 rfl #[.int .i64 a0_3] rfl zz5 ?_; (with_reducible refine (length_Put.calls k a0_3 t129 t130 _ A4.out).mono ?_); rintro e w11 ⟨rfl, hb⟩; refine ⟨_, rfl, ?_⟩; have n0_ := Aside0.mk (blk_below (g := gb126) (o := .cells #[.int .i64 a0_0, .int .i64 a0_1, .bool a0_2, .int .i64 a0_3] 39 (0, 0)) zz61 hb); have n1_ := Aside0.mk (below_step zz41 hb); clear BK126; clear HB; have BK126 := n0_; have HB := n1_; clear n0_ n1_; (try clear hb); (try clear hb2); (try clear hk); (try clear hi)))
    go_ret2
    exact ⟨zz3, zz41⟩
   ·
    rw [if_neg c6] at H
    exact absurd H zz43
  ·
   rw [if_neg c5] at H
   have c5b0 : (t130 == 0) = false := beq_eq_false_iff_ne.mpr c5
   have c5b1 : (t130 != 0) = true := bne_iff_ne.mpr c5
   simp only [Option.some.injEq, Prod.mk.injEq] at H
   obtain ⟨rfl, rfl⟩ := H
   go_enter Try.func43, Try.ntmps43
   go_wp2_with (first | ((with_reducible refine gate_dst (N := 1) rfl ?_); refine zzbx (N := 1) (cs := #[.int .i64 a0_0, .int .i64 a0_1, .bool a0_2, .int .i64 a0_3]) (t := 39) ?_; intro gb126 hg w12 hbox hb; have n0_ := Aside0.mk (below_step zz1 hb); have n1_ := Aside0.mk (hbox); have n2_ := Aside0.mk ((zz15 : w.heap.size ≤ gb126)); have n3_ := Aside0.mk ((zz15 : w.heap.size ≤ gb126)); clear HB; have HB := n0_; have BK126 := n1_; have GW126 := n2_; have GE126 := n3_; clear n0_ n1_ n2_ n3_; clear hb hbox hg; have hcz13_0 : w12.cell? ⟨gb126, 0, none⟩ = some (.int .i64 a0_0) := (blk_cell BK126.out 0).trans rfl; have hcz13_1 : w12.cell? ⟨gb126, 1, none⟩ = some (.int .i64 a0_1) := (blk_cell BK126.out 1).trans rfl; have hcz13_2 : w12.cell? ⟨gb126, 2, none⟩ = some (.bool a0_2) := (blk_cell BK126.out 2).trans rfl; have hcz13_3 : w12.cell? ⟨gb126, 3, none⟩ = some (.int .i64 a0_3) := (blk_cell BK126.out 3).trans rfl; have hfz13_0 := blk_frozen BK126.out 0; have hfz13_1 := blk_frozen BK126.out 1; have hfz13_2 := blk_frozen BK126.out 2; have hfz13_3 := blk_frozen BK126.out 3) | ((with_reducible refine gate_callee (f := 62) rfl ?_); refine goesL_ (some 9) rfl rfl Try.func62 zz4 rfl #[.agg #[.int .i64 a0_0, .int .i64 a0_1, .bool a0_2, .int .i64 a0_3]] rfl zz5 ?_; (with_reducible refine (ident_Put.calls k a0_0 a0_1 a0_2 a0_3 t127 t128 _ A2.out).mono ?_); rintro e w14 ⟨rfl, hb⟩; refine ⟨_, rfl, ?_⟩; have n0_ := Aside0.mk (blk_below (g := gb126) (o := .cells #[.int .i64 a0_0, .int .i64 a0_1, .bool a0_2, .int .i64 a0_3] 39 (0, 0)) zz61 hb); have n1_ := Aside0.mk (below_step zz41 hb); clear BK126; clear HB; have BK126 := n0_; have HB := n1_; clear n0_ n1_; (try clear hb); (try clear hb2); (try clear hk); (try clear hi); have hcz15_0 : w14.cell? ⟨gb126, 0, none⟩ = some (.int .i64 a0_0) := (blk_cell BK126.out 0).trans rfl; have hcz15_1 : w14.cell? ⟨gb126, 1, none⟩ = some (.int .i64 a0_1) := (blk_cell BK126.out 1).trans rfl; have hcz15_2 : w14.cell? ⟨gb126, 2, none⟩ = some (.bool a0_2) := (blk_cell BK126.out 2).trans rfl; have hcz15_3 : w14.cell? ⟨gb126, 3, none⟩ = some (.int .i64 a0_3) := (blk_cell BK126.out 3).trans rfl; have hfz15_0 := blk_frozen BK126.out 0; have hfz15_1 := blk_frozen BK126.out 1; have hfz15_2 := blk_frozen BK126.out 2; have hfz15_3 := blk_frozen BK126.out 3) | ((with_reducible refine gate_callee (f := 63) rfl ?_); refine goesL_ (some 18) rfl rfl Try.func63 zz4 rfl #[.int .i64 a0_3] rfl zz5 ?_; (with_reducible refine (length_Put.calls k a0_3 t129 t130 _ A4.out).mono ?_); rintro e w16 ⟨rfl, hb⟩; refine ⟨_, rfl, ?_⟩; have n0_ := Aside0.mk (blk_below (g := gb126) (o := .cells #[.int .i64 a0_0, .int .i64 a0_1, .bool a0_2, .int .i64 a0_3] 39 (0, 0)) zz61 hb); have n1_ := Aside0.mk (below_step zz41 hb); clear BK126; clear HB; have BK126 := n0_; have HB := n1_; clear n0_ n1_; (try clear hb); (try clear hb2); (try clear hk); (try clear hi)))
   go_ret2
   exact ⟨zz3, zz41⟩
 ·
  rw [if_neg c3] at H
  have c3b0 : (t128 == 0) = false := beq_eq_false_iff_ne.mpr c3
  have c3b1 : (t128 != 0) = true := bne_iff_ne.mpr c3
  simp only [Option.some.injEq, Prod.mk.injEq] at H
  obtain ⟨rfl, rfl⟩ := H
  go_enter Try.func43, Try.ntmps43
  go_wp2_with (first | ((with_reducible refine gate_dst (N := 1) rfl ?_); refine zzbx (N := 1) (cs := #[.int .i64 a0_0, .int .i64 a0_1, .bool a0_2, .int .i64 a0_3]) (t := 39) ?_; intro gb126 hg w17 hbox hb; have n0_ := Aside0.mk (below_step zz1 hb); have n1_ := Aside0.mk (hbox); have n2_ := Aside0.mk ((zz15 : w.heap.size ≤ gb126)); have n3_ := Aside0.mk ((zz15 : w.heap.size ≤ gb126)); clear HB; have HB := n0_; have BK126 := n1_; have GW126 := n2_; have GE126 := n3_; clear n0_ n1_ n2_ n3_; clear hb hbox hg; have hcz18_0 : w17.cell? ⟨gb126, 0, none⟩ = some (.int .i64 a0_0) := (blk_cell BK126.out 0).trans rfl; have hcz18_1 : w17.cell? ⟨gb126, 1, none⟩ = some (.int .i64 a0_1) := (blk_cell BK126.out 1).trans rfl; have hcz18_2 : w17.cell? ⟨gb126, 2, none⟩ = some (.bool a0_2) := (blk_cell BK126.out 2).trans rfl; have hcz18_3 : w17.cell? ⟨gb126, 3, none⟩ = some (.int .i64 a0_3) := (blk_cell BK126.out 3).trans rfl; have hfz18_0 := blk_frozen BK126.out 0; have hfz18_1 := blk_frozen BK126.out 1; have hfz18_2 := blk_frozen BK126.out 2; have hfz18_3 := blk_frozen BK126.out 3) | ((with_reducible refine gate_callee (f := 62) rfl ?_); refine goesL_ (some 9) rfl rfl Try.func62 zz4 rfl #[.agg #[.int .i64 a0_0, .int .i64 a0_1, .bool a0_2, .int .i64 a0_3]] rfl zz5 ?_; (with_reducible refine (ident_Put.calls k a0_0 a0_1 a0_2 a0_3 t127 t128 _ A2.out).mono ?_); rintro e w19 ⟨rfl, hb⟩; refine ⟨_, rfl, ?_⟩; have n0_ := Aside0.mk (blk_below (g := gb126) (o := .cells #[.int .i64 a0_0, .int .i64 a0_1, .bool a0_2, .int .i64 a0_3] 39 (0, 0)) zz61 hb); have n1_ := Aside0.mk (below_step zz41 hb); clear BK126; clear HB; have BK126 := n0_; have HB := n1_; clear n0_ n1_; (try clear hb); (try clear hb2); (try clear hk); (try clear hi)))
  go_ret2
  exact ⟨zz3, zz41⟩
def gantletref05_groups.l0 : Nat → Int → List Int → Option (List Int)
 | 0, _, _ => none
 | k + 1, x0, x3 => if x0 > 127 then ((some (([Int.tmod (wrap64 (Int.tdiv x0 128)) 128] : List Int) : List Int)).bind fun y134 => (if y134.length + x3.length < 17592186044416 then (gantletref05_groups.l0 k (wrap64 (Int.tdiv x0 128)) (y134 ++ x3)) else (none))) else (some x3)
def gantletref05_groups.f (k : Nat) (a0 : Int) : Option (List Int) := gantletref05_groups.l0 k a0 (([Int.tmod a0 128] : List Int))
set_option maxHeartbeats 8000000 in
set_option maxRecDepth 100000 in
theorem gantletref05_groups.calls (k : Nat) (a0 : Int) (r : List Int) (w : World) (h : gantletref05_groups.f k a0 = some r) :
 Calls Try.prog 82 #[.int .i64 a0] w fun e w' => ∃ v0_ : Value, e = .returned (v0_) ∧ Kd.R (Kd.int .i64) 3 w' w.heap.size (fun _ => True) v0_ r ∧ Below w.heap.size w w' := by
 have HB := Aside0.mk (Below.refl w.heap.size w)
 have H : (gantletref05_groups.l0 k a0 (([Int.tmod a0 128] : List Int))) = some r := h
 clear h
 obtain ⟨y131, hy131⟩ : ∃ y_ : List Int, y_ = (([Int.tmod a0 128] : List Int)) := ⟨_, rfl⟩
 replace H : (gantletref05_groups.l0 k a0 y131) = some r := by first | (rw [hy131]; with_reducible exact H) | (have H2_ := (Option.bind_some _ _).symm.trans H; rw [hy131]; with_reducible exact H2_) | (have H2_ := (Option.bind_some _ _).symm.trans H; with_reducible exact H2_) | with_reducible exact H | (rw [hy131]; exact H) | exact H
 have Ny131 := Aside0.mk hy131
 clear hy131
 have H' := Aside0.mk H
 clear H
 go_enter Try.func82, Try.ntmps82
 go_wp2_with (first | ((with_reducible refine gate_dst (N := 6) rfl ?_); refine Kd.R_lit (Kd.int .i64) _ 3 ?hg (N := 6) ?hd (xs := ([Int.tmod a0 128] : List Int)) (inner := [.int .i64 (Int.tmod a0 128)]) (ok := fun _ => True) (okp := fun _ => True) ?hr ?hp (fun _ hk => hk) trivial (Below.refl _ _) (Nat.le_refl _) zz43 ?_; (case hd => rfl); (case hg => rfl); (case hr => first | (go_simp; done) | (go_simp; rfl)); (case hp => exact (Reps.one (show Kd.M (Kd.int .i64) _ _ _ (Int.tmod a0 128) [.int .i64 (Int.tmod a0 128)] from rfl) (Reps.none _ _))); intro v132 w2 ho3 hb hg_ hnew_; clear hg_ hnew_; (first | rw [← Ny131.out] at ho3 | (simp only [Int.reduceToNat] at ho3; rw [← Ny131.out] at ho3)); have n0_ := Aside0.mk (Kd.R_lower ho3 (below_size zz1)); have n1_ := Aside0.mk (below_step zz1 hb); clear HB; have HO133 := n0_; have HB := n1_; clear n0_ n1_; clear hb ho3))
 go_loopg [0, 3] k (fun kq v0 v3 w' => ∃ (x0_1 : Int) (x3_1 : List Int), v0 = .int .i64 x0_1 ∧ Aside0 (gantletref05_groups.l0 kq x0_1 x3_1 = some r) ∧ Aside0 (kq ≤ k) ∧ Aside0 (Kd.R (Kd.int .i64) 3 w' w.heap.size (fun _ => True) v3 x3_1) ∧ Aside0 (Below w.heap.size w w'))
 case atStart => exact ⟨(a0), (y131), zz0, H', ⟨Nat.le_refl _⟩, ⟨by (with_reducible repeat (first | apply Kd.R_alloc | apply Kd.R_drewN | apply Kd.R_drew)); exact HO133.out⟩, ⟨zz1⟩⟩
 case round =>
  clear H'
  try clear p2
  obtain ⟨x0_1, x3_1, rfl, HA, HK1, HO_3, HB⟩ := hrel
  cases gk with
  | zero => exact absurd HA.out (by simp [gantletref05_groups.l0])
  | succ k1 =>
    have H := HA.out
    clear HA
    simp only [gantletref05_groups.l0] at H
    by_cases c4 : x0_1 > 127
    ·
     rw [if_pos c4] at H
     have c4b0 : decide (127 < x0_1) = true := decide_eq_true c4
     clear c4
     obtain ⟨y134, hy134⟩ : ∃ y_ : List Int, y_ = (([Int.tmod (wrap64 (Int.tdiv x0_1 128)) 128] : List Int)) := ⟨_, rfl⟩
     replace H : (if y134.length + x3_1.length < 17592186044416 then (gantletref05_groups.l0 k1 (wrap64 (Int.tdiv x0_1 128)) (y134 ++ x3_1)) else (none)) = some r := by first | (rw [hy134]; with_reducible exact H) | (have H2_ := (Option.bind_some _ _).symm.trans H; rw [hy134]; with_reducible exact H2_) | (have H2_ := (Option.bind_some _ _).symm.trans H; with_reducible exact H2_) | with_reducible exact H | (rw [hy134]; exact H) | exact H
     have Ny134 := Aside0.mk hy134
     clear hy134
     by_cases c5 : y134.length + x3_1.length < 17592186044416
     ·
      rw [if_pos c5] at H
      have LMc5 := Aside0.mk c5
      clear c5
      obtain ⟨y137, hy137⟩ : ∃ y_ : List Int, y_ = (y134 ++ x3_1) := ⟨_, rfl⟩
      replace H : (gantletref05_groups.l0 k1 (wrap64 (Int.tdiv x0_1 128)) y137) = some r := by first | (rw [hy137]; with_reducible exact H) | (have H2_ := (Option.bind_some _ _).symm.trans H; rw [hy137]; with_reducible exact H2_) | (have H2_ := (Option.bind_some _ _).symm.trans H; with_reducible exact H2_) | with_reducible exact H | (rw [hy137]; exact H) | exact H
      have Ny137 := Aside0.mk hy137
      clear hy137
      have H' := Aside0.mk H
      clear H
      go_wp2_with (first | ((with_reducible refine gate_dst (N := 13) rfl ?_); refine Kd.R_lit (Kd.int .i64) _ 3 ?hg (N := 13) ?hd (xs := ([Int.tmod (wrap64 (Int.tdiv x0_1 128)) 128] : List Int)) (inner := [.int .i64 (Int.tmod (wrap64 (Int.tdiv x0_1 128)) 128)]) (ok := fun _ => True) (okp := fun _ => True) ?hr ?hp (fun _ hk => hk) trivial (Below.refl _ _) (Nat.le_refl _) zz43 ?_; (case hd => rfl); (case hg => rfl); (case hr => first | (go_simp; done) | (go_simp; rfl)); (case hp => exact (Reps.one (show Kd.M (Kd.int .i64) _ _ _ (Int.tmod (wrap64 (Int.tdiv x0_1 128)) 128) [.int .i64 (Int.tmod (wrap64 (Int.tdiv x0_1 128)) 128)] from rfl) (Reps.none _ _))); intro v135 w6 ho7 hb hg_ hnew_; clear hg_ hnew_; (first | rw [← Ny134.out] at ho7 | (simp only [Int.reduceToNat] at ho7; rw [← Ny134.out] at ho7)); have n0_ := Aside0.mk (Kd.R_elder' zz38 (Kd.R_base ho7) hb); have n1_ := Aside0.mk (Kd.R_lower (Kd.R_new' ho7 (Kd.R_lt zz38)) (below_size zz1)); have n2_ := Aside0.mk (below_step zz1 hb); clear HO_3; clear HB; have HO_3 := n0_; have HO136 := n1_; have HB := n2_; clear n0_ n1_ n2_; clear hb ho7; obtain ⟨Ao9, co9, eo9⟩ := Kd.R_slice HO_3.out; subst eo9) | ((with_reducible refine gate_builtin (b := .append) (xs := #[.tmp 13, .tmp 14]) rfl ?_); at_builtin; refine Kd.R_append_rows (Kd.int .i64) (w0 := w) w.heap.size rfl (.tmp 13) (.tmp 14) 106 3 (.int .i64 0) 8 rfl Try.underlying106 info3 rfl zz13 zz7 v135 y134 x3_1 _ _ _ (fun k_ => some k_ ≠ (.slice Ao9 x3_1.length co9 : Value).ownBlock) (fun _ => False) rfl rfl ?aO ?aR (fun _ _ h => h) (fun _ h => h.elim) ?aF ?aB ?aS ?aL ?_; (case aR => repeat (first | exact (Kd.R_reads' HO_3.out).2.2 | (with_reducible refine Kd.C_alloc ?_ _) | (with_reducible refine Kd.C_drewN ?_ _) | (with_reducible refine Kd.C_drew ?_))); (case aB => exact zz1); (case aF => exact (fun k_ hk => Kd.fresh' (Kd.R_lt zz38) k_ hk)); (case aO => exact (by (with_reducible repeat (first | apply Kd.R_alloc | apply Kd.R_drewN | apply Kd.R_drew)); exact Kd.R_mono HO136.out (fun _ hk => hk.2))); (case aS => exact (below_size zz1)); (case aL => have := LMc5.out; omega); intro v138 w8 ho hb hg hat; rw [← Ny137.out] at ho; have n0_ := Aside0.mk (Kd.R_after (ok := (fun _ => True)) zz38 hg hat); have n1_ := Aside0.mk (hb); have n2_ := Aside0.mk (ho); clear HO_3; clear HB; clear HO136; have HO_3 := n0_; have HB := n1_; have HO139 := n2_; clear n0_ n1_ n2_; clear ho hb hg hat))
      go_roundg k1
      case measure => have := HK1.out; omega
      case rel => exact ⟨(wrap64 (Int.tdiv x0_1 128)), (y137), zz0, H', ⟨zz68⟩, ⟨by (with_reducible repeat (first | apply Kd.R_alloc | apply Kd.R_drewN | apply Kd.R_drew)); exact Kd.R_mono HO139.out (fun _ hk => trivial)⟩, ⟨zz1⟩⟩
     ·
      rw [if_neg c5] at H
      exact absurd H zz43
    ·
     rw [if_neg c4] at H
     have c4b0 : decide (127 < x0_1) = false := decide_eq_false c4
     clear c4
     obtain rfl := Option.some.inj H
     go_wp2
     go_ret
     exact ⟨_, zz3, zz38, zz1⟩
end Go.Proofs.Ytgddaddoabjgiaa.PA
namespace Go.Proofs.Ytgddaddoabjgiaa.BLen
open RowKit PA YtgddaddoabjgiaaW.PrintWords YtgddaddoabjgiaaW.PrintLast YtgddaddoabjgiaaW.PrintMore
open Idm Lenm BId
set_option linter.unusedVariables false
theorem strOf_append (a b : List Int) : strOfNums a ++ strOfNums b = strOfNums (a ++ b) := by
 refine ByteArray.ext ?_
 rw [ByteArray.data_append]
 unfold strOfNums
 simp
theorem u8_128_or (x : Int) (h₀ : 0 ≤ x) (h₁ : x < 128) : Go.bits .or .u8 128 x = 128 + x := by
 have h : ∀ n : Nat, n < 128 → Go.bits .or .u8 128 (n : Int) = 128 + (n : Int) := by decide +kernel
 have := h x.toNat zz7
 rwa [Int.toNat_of_nonneg h₀] at this
def lb0 (n : Nat) : List Int := if n = 0 then [] else lb n
theorem lb0_step (n : Nat) (h : 0 < n) : lb0 n = lb0 (n / 256) ++ [((n % 256 : Nat) : Int)] := by
 unfold lb0
 rw [if_neg zz7]
 by_cases h1 : n < 256
 ·
  rw [if_pos zz7, lb_small n h1, show n % 256 = n by omega]; rfl
 ·
  rw [if_neg zz7, lb_big n zz7]
theorem lput_loop : ∀ (d n : Nat) (k : Nat) (acc : List Int), n < 256 ^ d → d ≤ 8 → d < k → acc.length + d ≤ 20 → (lb0 n ++ acc).length ≤ 100 →
 length_Put.l0 k n acc = some (strOfNums ((128 + ((lb0 n ++ acc).length : Int)) :: (lb0 n ++ acc)), 0) := by
 intro d
 induction d with
 | zero =>
   intro n k acc hn _ hk hl hz
   obtain ⟨k, rfl⟩ : ∃ m, k = m + 1 := ⟨k - 1, zz7⟩
   obtain rfl : n = 0 := by simpa using hn
   simp only [length_Put.l0]
   have e : lb0 0 = [] := rfl
   rw [e] at hz ⊢
   rw [if_neg zz43, List.nil_append, u8_128_or _ zz7 (by simp at hz; omega), Option.bind_some, if_pos (by rw [strOfNums_size, strOfNums_size]; simp at *; omega), strOf_append]
   simp at hz
   rw [show ((acc.length : Int)) % 256 = acc.length by omega]
   rfl
 | succ d ih =>
   intro n k acc hn hd hk hl hz
   obtain ⟨k, rfl⟩ : ∃ m, k = m + 1 := ⟨k - 1, zz7⟩
   rcases Nat.eq_zero_or_pos n with h0 | h0
   ·
    subst h0
    simp only [length_Put.l0]
    have e : lb0 0 = [] := rfl
    rw [e] at hz ⊢
    rw [if_neg zz43, List.nil_append, u8_128_or _ zz7 (by simp at hz; omega), Option.bind_some, if_pos (by rw [strOfNums_size, strOfNums_size]; simp at *; omega), strOf_append]
    simp at hz
    rw [show ((acc.length : Int)) % 256 = acc.length by omega]
    rfl
   ·
    simp only [length_Put.l0]
    rw [if_pos zz7, Option.bind_some, if_pos zz73]
    have e1 : ((n : Int) / 256) = ((n / 256 : Nat) : Int) := by omega
    have e2 : (n : Int) % 256 = ((n % 256 : Nat) : Int) := by omega
    have e3 : lb0 n ++ acc = lb0 (n / 256) ++ ([((n % 256 : Nat) : Int)] ++ acc) := by rw [lb0_step n h0, List.append_assoc]
    rw [e3] at hz
    rw [e1, e2, e3]
    exact ih (n / 256) k _ (by rw [Nat.div_lt_iff_lt_mul zz7]; rw [Nat.pow_succ] at hn; exact hn) zz7 zz7 zz73 hz
theorem lput_ok (k : Nat) (n : Int) (h0 : 0 ≤ n) (h1 : n ≤ MaxLen) (hk : 12 ≤ k) : length_Put.f k n = some (strOfNums (lenc n), 0) := by
 unfold MaxLen at h1
 obtain ⟨k, rfl⟩ : ∃ m, k = m + 1 := ⟨k - 1, zz7⟩
 unfold length_Put.f
 rw [if_neg zz7, show decide (n > 2305843009213693951) = false by simp; omega]
 simp only [length_Put.j0, Bool.false_eq_true, if_false]
 unfold lenc
 by_cases h : n < 128
 ·
  rw [if_pos h, if_pos h, show n % 256 = n by omega]
 ·
  rw [if_neg h, if_neg h]
  have hb : lb0 n.toNat = lb n.toNat := by unfold lb0; rw [if_neg zz7]
  have h8 := lb_len_le 7 n.toNat zz73
  have := lput_loop 8 n.toNat k [] zz73 zz7 zz7 zz43 (by rw [hb]; simp; omega)
  rw [hb, List.append_nil, Int.toNat_of_nonneg h0] at this
  exact this
theorem lput_bad (k : Nat) (n : Int) (h : ¬ (0 ≤ n ∧ n ≤ MaxLen)) : length_Put.f (k + 1) n = some (⟨#[]⟩, 1) := by
 unfold MaxLen at h
 unfold length_Put.f
 have e : length_Put.j0 (k + 1) n true = some (⟨#[]⟩, 1) := by simp only [length_Put.j0, if_true]
 by_cases h1 : n < 0
 ·
  rw [if_pos h1, e]
 ·
  rw [if_neg h1, show decide (n > 2305843009213693951) = true by simp; omega, e]
end Go.Proofs.Ytgddaddoabjgiaa.BLen
namespace Go.Proofs.Ytgddaddoabjgiaa.BHd
open RowKit PA YtgddaddoabjgiaaW.PrintWords YtgddaddoabjgiaaW.PrintLast YtgddaddoabjgiaaW.PrintMore
open Idm Lenm Hdm BId BLen
set_option linter.unusedVariables false
theorem hput_ok (k : Nat) {c t n : Int} (cons : Bool) (h : Whole c t n) (hk : 20 ≤ k) : head_Put.f k c t cons n = some (strOfNums (hdenc c t cons n), 0) := by
 obtain ⟨m, rfl⟩ : ∃ m, k = m + 8 := ⟨k - 8, zz7⟩
 have hl := hdenc_len cons h
 unfold head_Put.f
 rw [put_ok m cons n h.1, Option.bind_some]
 simp only [if_true]
 rw [lput_ok (m + 8) n h.2.1 h.2.2 zz7, Option.bind_some]
 simp only [if_true]
 rw [if_pos (by rw [strOfNums_size, strOfNums_size]; omega), strOf_append]
 rfl
theorem hput_bad (k : Nat) {c t n : Int} (cons : Bool) (h : ¬ Whole c t n) (hk : 20 ≤ k) : head_Put.f k c t cons n = some (⟨#[]⟩, 1) := by
 obtain ⟨m, rfl⟩ : ∃ m, k = m + 8 := ⟨k - 8, zz7⟩
 unfold head_Put.f
 by_cases hv : Valid c t
 ·
  rw [put_ok m cons n hv, Option.bind_some]
  simp only [if_true]
  rw [lput_bad (m + 7) n (fun hn => h ⟨hv, hn.1, hn.2⟩), Option.bind_some]
  simp
 ·
  rw [put_bad (m + 7) cons n hv, Option.bind_some]
  simp
end Go.Proofs.Ytgddaddoabjgiaa.BHd
namespace Go.Proofs.Ytgddaddoabjgiaa.PA
open RowKit YtgddaddoabjgiaaW.PrintWords YtgddaddoabjgiaaW.PrintLast YtgddaddoabjgiaaW.PrintMore
attribute [local go_sem] max2_int min2_int max_two min_two max_three min_three max_four min_four
set_option linter.unusedVariables false
set_option linter.unusedSimpArgs false
mutual
def gantletref05_Put.j0 : Nat → Bool → Int → Int → Bool → Int → Option (ByteArray × Int)
 | 0, _, _, _, _, _ => none
 | k + 1, x25, x141000, x141001, x141002, x141003 => if x25 = true then (some ((⟨#[]⟩ : ByteArray), 1)) else (if x141002 = true then (gantletref05_Put.j1 k (wrap64 ((wrap64 (64 * x141000)) + 32)) x141000 x141001 x141002 x141003) else (gantletref05_Put.j1 k (wrap64 (64 * x141000)) x141000 x141001 x141002 x141003))
def gantletref05_Put.j1 : Nat → Int → Int → Int → Bool → Int → Option (ByteArray × Int)
 | 0, _, _, _, _, _ => none
 | k + 1, x4, x141000, x141001, x141002, x141003 => if x141001 < 31 then (some (strOfNums (([(wrap64 (x4 + x141001)) % 256] : List Int)), 0)) else ((gantletref05_groups.f k x141001).bind fun t147 => (gantletref05_Put.l0 k (([(wrap64 (x4 + 31)) % 256] : List Int)) t147 0))
def gantletref05_Put.l0 : Nat → List Int → List Int → Int → Option (ByteArray × Int)
 | 0, _, _, _ => none
 | k + 1, x5, x6, x7 => if x7 < (x6.length : Int) then (if x7 < (wrap64 ((x6.length : Int) - 1)) then (if 0 ≤ x7 then (if x5.length < 140737488355328 then (gantletref05_Put.l0 k (x5 ++ [(wrap64 (128 + (rd x6 x7))) % 256]) x6 (wrap64 (x7 + 1))) else (none)) else (none)) else (if 0 ≤ x7 then (if x5.length < 140737488355328 then (gantletref05_Put.l0 k (x5 ++ [(rd x6 x7) % 256]) x6 (wrap64 (x7 + 1))) else (none)) else (none))) else (some (strOfNums x5, 0))
end
def gantletref05_Put.f (k : Nat) (a0_0 : Int) (a0_1 : Int) (a0_2 : Bool) (a0_3 : Int) : Option (ByteArray × Int) := if a0_0 < 0 then (gantletref05_Put.j0 k true a0_0 a0_1 a0_2 a0_3) else (if a0_0 > 3 then (gantletref05_Put.j0 k true a0_0 a0_1 a0_2 a0_3) else (if a0_1 < 0 then (gantletref05_Put.j0 k true a0_0 a0_1 a0_2 a0_3) else (gantletref05_Put.j0 k (decide (a0_1 > 268435455)) a0_0 a0_1 a0_2 a0_3)))
set_option maxHeartbeats 8000000 in
set_option maxRecDepth 100000 in
theorem gantletref05_Put.calls (k : Nat) (a0_0 : Int) (a0_1 : Int) (a0_2 : Bool) (a0_3 : Int) (r1 : ByteArray) (r2 : Int) (w : World) (h : gantletref05_Put.f k a0_0 a0_1 a0_2 a0_3 = some (r1, r2)) :
 Calls Try.prog 64 #[.agg #[.int .i64 a0_0, .int .i64 a0_1, .bool a0_2, .int .i64 a0_3]] w fun e w' => e = .returned (.tuple #[.string r1, .int .i64 r2]) ∧ Below w.heap.size w w' := by
 have hu39 := Try.underlying39
 have HB := Aside0.mk (Below.refl w.heap.size w)
 have H : (if a0_0 < 0 then (gantletref05_Put.j0 k true a0_0 a0_1 a0_2 a0_3) else (if a0_0 > 3 then (gantletref05_Put.j0 k true a0_0 a0_1 a0_2 a0_3) else (if a0_1 < 0 then (gantletref05_Put.j0 k true a0_0 a0_1 a0_2 a0_3) else (gantletref05_Put.j0 k (decide (a0_1 > 268435455)) a0_0 a0_1 a0_2 a0_3)))) = some (r1, r2) := h
 clear h
 have HC2 := Aside0.mk H
 clear H
 go_enter Try.func64, Try.ntmps64
 go_upto_region 1 with (first | ((with_reducible refine gate_dst (N := 1) rfl ?_); refine zzbx (N := 1) (cs := #[.int .i64 a0_0, .int .i64 a0_1, .bool a0_2, .int .i64 a0_3]) (t := 39) ?_; intro gb140 hg w3 hbox hb; have n0_ := Aside0.mk (below_step zz1 hb); have n1_ := Aside0.mk (hbox); have n2_ := Aside0.mk ((zz15 : w.heap.size ≤ gb140)); have n3_ := Aside0.mk ((zz15 : w.heap.size ≤ gb140)); clear HB; have HB := n0_; have BK140 := n1_; have GW140 := n2_; have GE140 := n3_; clear n0_ n1_ n2_ n3_; clear hb hbox hg))
 (try simp only [Act.put, List.setIfInBounds_toArray, List.set_cons_zero, List.set_cons_succ])
 go_cut [25] (fun v25 wc => ∃ (kq : Nat) (x25_1 : Bool), v25 = .bool x25_1 ∧ Aside0 (gantletref05_Put.j0 kq x25_1 a0_0 a0_1 a0_2 a0_3 = some (r1, r2)) ∧ Aside0 (kq ≤ k) ∧ Aside0 (wc.heap[gb140]? = some (.cells #[.int .i64 a0_0, .int .i64 a0_1, .bool a0_2, .int .i64 a0_3] 39 (0, 0))) ∧ Aside0 (Below w.heap.size w wc))
 case first =>
  have H := HC2.out
  clear HC2
  by_cases c4 : a0_0 < 0
  ·
   rw [if_pos c4] at H
   have c4b0 : decide (a0_0 < 0) = true := decide_eq_true c4
   clear c4
   (first | rw [c4b0] | (simp only [i64_w, i32_w]; rw [c4b0]) | skip)
   have H' := Aside0.mk H
   clear H
   have hcz5_0 : w3.cell? ⟨gb140, 0, none⟩ = some (.int .i64 a0_0) := (blk_cell BK140.out 0).trans rfl
   have hcz5_1 : w3.cell? ⟨gb140, 1, none⟩ = some (.int .i64 a0_1) := (blk_cell BK140.out 1).trans rfl
   have hcz5_2 : w3.cell? ⟨gb140, 2, none⟩ = some (.bool a0_2) := (blk_cell BK140.out 2).trans rfl
   have hcz5_3 : w3.cell? ⟨gb140, 3, none⟩ = some (.int .i64 a0_3) := (blk_cell BK140.out 3).trans rfl
   have hfz5_0 := blk_frozen BK140.out 0
   have hfz5_1 := blk_frozen BK140.out 1
   have hfz5_2 := blk_frozen BK140.out 2
   have hfz5_3 := blk_frozen BK140.out 3
   go_wp2
   go_meet
   case rel => exact ⟨_, (true), zz0, H', ⟨zz28⟩, ⟨zz34⟩, ⟨zz10⟩⟩
  ·
   rw [if_neg c4] at H
   have c4b0 : decide (a0_0 < 0) = false := decide_eq_false c4
   clear c4
   (first | rw [c4b0] | (simp only [i64_w, i32_w]; rw [c4b0]) | skip)
   by_cases c6 : a0_0 > 3
   ·
    rw [if_pos c6] at H
    have c6b0 : decide (3 < a0_0) = true := decide_eq_true c6
    clear c6
    have H' := Aside0.mk H
    clear H
    have hcz7_0 : w3.cell? ⟨gb140, 0, none⟩ = some (.int .i64 a0_0) := (blk_cell BK140.out 0).trans rfl
    have hcz7_1 : w3.cell? ⟨gb140, 1, none⟩ = some (.int .i64 a0_1) := (blk_cell BK140.out 1).trans rfl
    have hcz7_2 : w3.cell? ⟨gb140, 2, none⟩ = some (.bool a0_2) := (blk_cell BK140.out 2).trans rfl
    have hcz7_3 : w3.cell? ⟨gb140, 3, none⟩ = some (.int .i64 a0_3) := (blk_cell BK140.out 3).trans rfl
    have hfz7_0 := blk_frozen BK140.out 0
    have hfz7_1 := blk_frozen BK140.out 1
    have hfz7_2 := blk_frozen BK140.out 2
    have hfz7_3 := blk_frozen BK140.out 3
    go_wp2
    go_meet
    case rel => exact ⟨_, (true), zz0, H', ⟨zz28⟩, ⟨zz34⟩, ⟨zz10⟩⟩
   ·
    rw [if_neg c6] at H
    have c6b0 : decide (3 < a0_0) = false := decide_eq_false c6
    clear c6
    by_cases c8 : a0_1 < 0
    ·
     rw [if_pos c8] at H
     have c8b0 : decide (a0_1 < 0) = true := decide_eq_true c8
     clear c8
     have H' := Aside0.mk H
     clear H
     have hcz9_0 : w3.cell? ⟨gb140, 0, none⟩ = some (.int .i64 a0_0) := (blk_cell BK140.out 0).trans rfl
     have hcz9_1 : w3.cell? ⟨gb140, 1, none⟩ = some (.int .i64 a0_1) := (blk_cell BK140.out 1).trans rfl
     have hcz9_2 : w3.cell? ⟨gb140, 2, none⟩ = some (.bool a0_2) := (blk_cell BK140.out 2).trans rfl
     have hcz9_3 : w3.cell? ⟨gb140, 3, none⟩ = some (.int .i64 a0_3) := (blk_cell BK140.out 3).trans rfl
     have hfz9_0 := blk_frozen BK140.out 0
     have hfz9_1 := blk_frozen BK140.out 1
     have hfz9_2 := blk_frozen BK140.out 2
     have hfz9_3 := blk_frozen BK140.out 3
     go_wp2
     go_meet
     case rel => exact ⟨_, (true), zz0, H', ⟨zz28⟩, ⟨zz34⟩, ⟨zz10⟩⟩
    ·
     rw [if_neg c8] at H
     have c8b0 : decide (a0_1 < 0) = false := decide_eq_false c8
     clear c8
     have H' := Aside0.mk H
     clear H
     have hcz10_0 : w3.cell? ⟨gb140, 0, none⟩ = some (.int .i64 a0_0) := (blk_cell BK140.out 0).trans rfl
     have hcz10_1 : w3.cell? ⟨gb140, 1, none⟩ = some (.int .i64 a0_1) := (blk_cell BK140.out 1).trans rfl
     have hcz10_2 : w3.cell? ⟨gb140, 2, none⟩ = some (.bool a0_2) := (blk_cell BK140.out 2).trans rfl
     have hcz10_3 : w3.cell? ⟨gb140, 3, none⟩ = some (.int .i64 a0_3) := (blk_cell BK140.out 3).trans rfl
     have hfz10_0 := blk_frozen BK140.out 0
     have hfz10_1 := blk_frozen BK140.out 1
     have hfz10_2 := blk_frozen BK140.out 2
     have hfz10_3 := blk_frozen BK140.out 3
     go_wp2
     go_meet
     case rel => exact ⟨_, (decide (a0_1 > 268435455)), zz0, H', ⟨zz28⟩, ⟨zz34⟩, ⟨zz10⟩⟩
 case rest =>
  clear HC2
  try clear p2
  try clear c4
  try clear c4b0
  try clear c6
  try clear c6b0
  try clear c8
  try clear c8b0
  try clear hcz10_0
  try clear hcz10_1
  try clear hcz10_2
  try clear hcz10_3
  try clear hcz5_0
  try clear hcz5_1
  try clear hcz5_2
  try clear hcz5_3
  try clear hcz7_0
  try clear hcz7_1
  try clear hcz7_2
  try clear hcz7_3
  try clear hcz9_0
  try clear hcz9_1
  try clear hcz9_2
  try clear hcz9_3
  try clear hfz10_0
  try clear hfz10_1
  try clear hfz10_2
  try clear hfz10_3
  try clear hfz5_0
  try clear hfz5_1
  try clear hfz5_2
  try clear hfz5_3
  try clear hfz7_0
  try clear hfz7_1
  try clear hfz7_2
  try clear hfz7_3
  try clear hfz9_0
  try clear hfz9_1
  try clear hfz9_2
  try clear hfz9_3
  obtain ⟨kq, x25_1, rfl, HA, HJ1, BK140, HB⟩ := hcut
  cases kq with
  | zero => exact absurd HA.out (by simp [gantletref05_Put.j0])
  | succ kj1 =>
    have H := HA.out
    clear HA
    simp only [gantletref05_Put.j0] at H
    by_cases c11 : x25_1 = true
    ·
     subst c11
     have H1 : (some ((⟨#[]⟩ : ByteArray), 1)) = some (r1, r2) := by rw [if_pos rfl] at H; exact H
     clear H
     have H := H1
     clear H1
     simp only [Option.some.injEq, Prod.mk.injEq] at H
     obtain ⟨rfl, rfl⟩ := H
     go_wp2
     go_ret2
     exact ⟨zz3, zz10⟩
    ·
     replace c11 := Bool.eq_false_iff.mpr c11
     subst c11
     have H1 : (if a0_2 = true then (gantletref05_Put.j1 kj1 (wrap64 ((wrap64 (64 * a0_0)) + 32)) a0_0 a0_1 a0_2 a0_3) else (gantletref05_Put.j1 kj1 (wrap64 (64 * a0_0)) a0_0 a0_1 a0_2 a0_3)) = some (r1, r2) := by rw [if_neg (show ¬ (false = true) by decide)] at H; exact H
     clear H
     have H := H1
     clear H1
     have HC12 := Aside0.mk H
     clear H
     have hcz13_0 : wc.cell? ⟨gb140, 0, none⟩ = some (.int .i64 a0_0) := (blk_cell BK140.out 0).trans rfl
     have hcz13_1 : wc.cell? ⟨gb140, 1, none⟩ = some (.int .i64 a0_1) := (blk_cell BK140.out 1).trans rfl
     have hcz13_2 : wc.cell? ⟨gb140, 2, none⟩ = some (.bool a0_2) := (blk_cell BK140.out 2).trans rfl
     have hcz13_3 : wc.cell? ⟨gb140, 3, none⟩ = some (.int .i64 a0_3) := (blk_cell BK140.out 3).trans rfl
     have hfz13_0 := blk_frozen BK140.out 0
     have hfz13_1 := blk_frozen BK140.out 1
     have hfz13_2 := blk_frozen BK140.out 2
     have hfz13_3 := blk_frozen BK140.out 3
     go_upto_if 30 with (fail)
     go_cut [4] (fun v4 wc => ∃ (kq : Nat) (x4_11 : Int), v4 = .int .i64 x4_11 ∧ Aside0 (gantletref05_Put.j1 kq x4_11 a0_0 a0_1 a0_2 a0_3 = some (r1, r2)) ∧ Aside0 (kq ≤ kj1) ∧ Aside0 (wc.heap[gb140]? = some (.cells #[.int .i64 a0_0, .int .i64 a0_1, .bool a0_2, .int .i64 a0_3] 39 (0, 0))) ∧ Aside0 (Below w.heap.size w wc))
     case first =>
      have H := HC12.out
      clear HC12
      by_cases c14 : a0_2 = true
      ·
       subst c14
       have H1 : (gantletref05_Put.j1 kj1 (wrap64 ((wrap64 (64 * a0_0)) + 32)) a0_0 a0_1 true a0_3) = some (r1, r2) := by rw [if_pos rfl] at H; exact H
       clear H
       have H := H1
       clear H1
       have H' := Aside0.mk H
       clear H
       go_wp2
       go_meet
       case rel => exact ⟨_, (wrap64 ((wrap64 (64 * a0_0)) + 32)), zz0, H', ⟨by have := HJ1.out; first | omega | exact Nat.le_refl _⟩, ⟨zz34⟩, ⟨zz10⟩⟩
      ·
       replace c14 := Bool.eq_false_iff.mpr c14
       subst c14
       have H1 : (gantletref05_Put.j1 kj1 (wrap64 (64 * a0_0)) a0_0 a0_1 false a0_3) = some (r1, r2) := by rw [if_neg (show ¬ (false = true) by decide)] at H; exact H
       clear H
       have H := H1
       clear H1
       have H' := Aside0.mk H
       clear H
       go_wp2
       go_meet
       case rel => exact ⟨_, (wrap64 (64 * a0_0)), zz0, H', ⟨by have := HJ1.out; first | omega | exact Nat.le_refl _⟩, ⟨zz34⟩, ⟨zz10⟩⟩
     case rest =>
      clear HC12
      try clear c1
      try clear p2
      try clear c4
      try clear c4b0
      try clear c6
      try clear c6b0
      try clear p6
      try clear c8
      try clear c8b0
      try clear c11
      try clear c14
      try clear hcz10_0
      try clear hcz10_1
      try clear hcz10_2
      try clear hcz10_3
      try clear hcz13_0
      try clear hcz13_1
      try clear hcz13_2
      try clear hcz13_3
      try clear hcz5_0
      try clear hcz5_1
      try clear hcz5_2
      try clear hcz5_3
      try clear hcz7_0
      try clear hcz7_1
      try clear hcz7_2
      try clear hcz7_3
      try clear hcz9_0
      try clear hcz9_1
      try clear hcz9_2
      try clear hcz9_3
      try clear hfz10_0
      try clear hfz10_1
      try clear hfz10_2
      try clear hfz10_3
      try clear hfz13_0
      try clear hfz13_1
      try clear hfz13_2
      try clear hfz13_3
      try clear hfz5_0
      try clear hfz5_1
      try clear hfz5_2
      try clear hfz5_3
      try clear hfz7_0
      try clear hfz7_1
      try clear hfz7_2
      try clear hfz7_3
      try clear hfz9_0
      try clear hfz9_1
      try clear hfz9_2
      try clear hfz9_3
      try clear p2
      obtain ⟨kq, x4_11, rfl, HA, HJ11, BK140, HB⟩ := hcut
      cases kq with
      | zero => exact absurd HA.out (by simp [gantletref05_Put.j1])
      | succ kj11 =>
        have H := HA.out
        clear HA
        simp only [gantletref05_Put.j1] at H
        by_cases c15 : a0_1 < 31
        ·
         rw [if_pos c15] at H
         have c15b0 : decide (a0_1 < 31) = true := decide_eq_true c15
         clear c15
         obtain ⟨y141, hy141⟩ : ∃ y_ : List Int, y_ = (([(wrap64 (x4_11 + a0_1)) % 256] : List Int)) := ⟨_, rfl⟩
         replace H : (some (strOfNums y141, 0)) = some (r1, r2) := by first | (rw [hy141]; with_reducible exact H) | (have H2_ := (Option.bind_some _ _).symm.trans H; rw [hy141]; with_reducible exact H2_) | (have H2_ := (Option.bind_some _ _).symm.trans H; with_reducible exact H2_) | with_reducible exact H | (rw [hy141]; exact H) | exact H
         have Ny141 := Aside0.mk hy141
         clear hy141
         simp only [Option.some.injEq, Prod.mk.injEq] at H
         obtain ⟨rfl, rfl⟩ := H
         have hcz16_0 : wc.cell? ⟨gb140, 0, none⟩ = some (.int .i64 a0_0) := (blk_cell BK140.out 0).trans rfl
         have hcz16_1 : wc.cell? ⟨gb140, 1, none⟩ = some (.int .i64 a0_1) := (blk_cell BK140.out 1).trans rfl
         have hcz16_2 : wc.cell? ⟨gb140, 2, none⟩ = some (.bool a0_2) := (blk_cell BK140.out 2).trans rfl
         have hcz16_3 : wc.cell? ⟨gb140, 3, none⟩ = some (.int .i64 a0_3) := (blk_cell BK140.out 3).trans rfl
         have hfz16_0 := blk_frozen BK140.out 0
         have hfz16_1 := blk_frozen BK140.out 1
         have hfz16_2 := blk_frozen BK140.out 2
         have hfz16_3 := blk_frozen BK140.out 3
         go_wp2_with (first | ((with_reducible refine gate_dst (N := 41) rfl ?_); refine Kd.R_lit (Kd.int .u8) _ 5 ?hg (N := 41) ?hd (xs := ([(wrap64 (x4_11 + a0_1)) % 256] : List Int)) (inner := [.int .u8 ((wrap64 (x4_11 + a0_1)) % 256)]) (ok := fun _ => True) (okp := fun _ => True) ?hr ?hp (fun _ hk => hk) trivial (Below.refl _ _) (Nat.le_refl _) zz43 ?_; (case hd => rfl); (case hg => rfl); (case hr => first | (go_simp; done) | (go_simp; rfl)); (case hp => exact (Reps.one (show Kd.M (Kd.int .u8) _ _ _ ((wrap64 (x4_11 + a0_1)) % 256) [.int .u8 ((wrap64 (x4_11 + a0_1)) % 256)] from rfl) (Reps.none _ _))); intro v142 w17 ho18 hb hg_ hnew_; clear hg_ hnew_; (first | rw [← Ny141.out] at ho18 | (simp only [Int.reduceToNat] at ho18; rw [← Ny141.out] at ho18)); have n0_ := Aside0.mk (Kd.R_lower ho18 (below_size zz10)); have n1_ := Aside0.mk (blk_below (g := gb140) (o := .cells #[.int .i64 a0_0, .int .i64 a0_1, .bool a0_2, .int .i64 a0_3] 39 (0, 0)) zz34 hb); have n2_ := Aside0.mk (below_step zz10 hb); clear BK140; clear HB; have HO143 := n0_; have BK140 := n1_; have HB := n2_; clear n0_ n1_ n2_; clear hb ho18; have hcv19 := own_string (P := Try.prog) Try.underlying76 Try.underlying5 Try.underlying9 (Kd.own_of_R HO143.out)))
         go_ret2
         exact ⟨zz3, zz10⟩
        ·
         rw [if_neg c15] at H
         have c15b0 : decide (a0_1 < 31) = false := decide_eq_false c15
         clear c15
         obtain ⟨y144, hy144⟩ : ∃ y_ : List Int, y_ = (([(wrap64 (x4_11 + 31)) % 256] : List Int)) := ⟨_, rfl⟩
         replace H : ((gantletref05_groups.f kj11 a0_1).bind fun t147 => (gantletref05_Put.l0 kj11 y144 t147 0)) = some (r1, r2) := by first | (rw [hy144]; with_reducible exact H) | (have H2_ := (Option.bind_some _ _).symm.trans H; rw [hy144]; with_reducible exact H2_) | (have H2_ := (Option.bind_some _ _).symm.trans H; with_reducible exact H2_) | with_reducible exact H | (rw [hy144]; exact H) | exact H
         have Ny144 := Aside0.mk hy144
         clear hy144
         replace H := Option.bind_eq_some_iff.mp H
         obtain ⟨t147, A200, H⟩ := H
         replace H : (gantletref05_Put.l0 kj11 y144 t147 0) = some (r1, r2) := H
         have A20 := Aside0.mk A200
         clear A200
         have H' := Aside0.mk H
         clear H
         have hcz21_0 : wc.cell? ⟨gb140, 0, none⟩ = some (.int .i64 a0_0) := (blk_cell BK140.out 0).trans rfl
         have hcz21_1 : wc.cell? ⟨gb140, 1, none⟩ = some (.int .i64 a0_1) := (blk_cell BK140.out 1).trans rfl
         have hcz21_2 : wc.cell? ⟨gb140, 2, none⟩ = some (.bool a0_2) := (blk_cell BK140.out 2).trans rfl
         have hcz21_3 : wc.cell? ⟨gb140, 3, none⟩ = some (.int .i64 a0_3) := (blk_cell BK140.out 3).trans rfl
         have hfz21_0 := blk_frozen BK140.out 0
         have hfz21_1 := blk_frozen BK140.out 1
         have hfz21_2 := blk_frozen BK140.out 2
         have hfz21_3 := blk_frozen BK140.out 3
         go_wp2_with (first | ((with_reducible refine gate_dst (N := 46) rfl ?_); refine Kd.R_lit (Kd.int .u8) _ 5 ?hg (N := 46) ?hd (xs := ([(wrap64 (x4_11 + 31)) % 256] : List Int)) (inner := [.int .u8 ((wrap64 (x4_11 + 31)) % 256)]) (ok := fun _ => True) (okp := fun _ => True) ?hr ?hp (fun _ hk => hk) trivial (Below.refl _ _) (Nat.le_refl _) zz43 ?_; (case hd => rfl); (case hg => rfl); (case hr => first | (go_simp; done) | (go_simp; rfl)); (case hp => exact (Reps.one (show Kd.M (Kd.int .u8) _ _ _ ((wrap64 (x4_11 + 31)) % 256) [.int .u8 ((wrap64 (x4_11 + 31)) % 256)] from rfl) (Reps.none _ _))); intro v145 w22 ho23 hb hg_ hnew_; clear hg_ hnew_; (first | rw [← Ny144.out] at ho23 | (simp only [Int.reduceToNat] at ho23; rw [← Ny144.out] at ho23)); have n0_ := Aside0.mk (Kd.R_lower ho23 (below_size zz10)); have n1_ := Aside0.mk (blk_below (g := gb140) (o := .cells #[.int .i64 a0_0, .int .i64 a0_1, .bool a0_2, .int .i64 a0_3] 39 (0, 0)) zz34 hb); have n2_ := Aside0.mk (below_step zz10 hb); clear BK140; clear HB; have HO146 := n0_; have BK140 := n1_; have HB := n2_; clear n0_ n1_ n2_; clear hb ho23; have hcz24_0 : w22.cell? ⟨gb140, 0, none⟩ = some (.int .i64 a0_0) := (blk_cell BK140.out 0).trans rfl; have hcz24_1 : w22.cell? ⟨gb140, 1, none⟩ = some (.int .i64 a0_1) := (blk_cell BK140.out 1).trans rfl; have hcz24_2 : w22.cell? ⟨gb140, 2, none⟩ = some (.bool a0_2) := (blk_cell BK140.out 2).trans rfl; have hcz24_3 : w22.cell? ⟨gb140, 3, none⟩ = some (.int .i64 a0_3) := (blk_cell BK140.out 3).trans rfl; have hfz24_0 := blk_frozen BK140.out 0; have hfz24_1 := blk_frozen BK140.out 1; have hfz24_2 := blk_frozen BK140.out 2; have hfz24_3 := blk_frozen BK140.out 3) | ((with_reducible refine gate_callee (f := 82) rfl ?_); refine goesL_ (some 49) rfl rfl Try.func82 zz4 rfl #[.int .i64 a0_1] rfl zz5 ?_; (with_reducible refine (gantletref05_groups.calls kj11 a0_1 t147 _ A20.out).mono ?_); rintro e w25 ⟨v148, rfl, ho0, hb⟩; refine ⟨_, rfl, ?_⟩; have n0_ := Aside0.mk (Kd.R_below (by (with_reducible repeat (first | apply Kd.R_alloc | apply Kd.R_drewN | apply Kd.R_drew)); exact HO146.out) hb); have n1_ := Aside0.mk (Kd.R_lower ho0 (below_size zz10)); have n2_ := Aside0.mk (blk_below (g := gb140) (o := .cells #[.int .i64 a0_0, .int .i64 a0_1, .bool a0_2, .int .i64 a0_3] 39 (0, 0)) zz34 hb); have n3_ := Aside0.mk (below_step zz10 hb); clear HO146; clear BK140; clear HB; have HO146 := n0_; have HO149 := n1_; have BK140 := n2_; have HB := n3_; clear n0_ n1_ n2_ n3_; (try clear hb); (try clear hb2); (try clear hk); (try clear hi); (try clear ho0)))
         go_loopg [5, 7] kj11 (fun kq v5 v7 w' => ∃ (x5_3 : List Int) (x7_3 : Int), v7 = .int .i64 x7_3 ∧ Aside0 (gantletref05_Put.l0 kq x5_3 t147 x7_3 = some (r1, r2)) ∧ Aside0 (kq ≤ kj11) ∧ Aside0 (Kd.R (Kd.int .u8) 5 w' w.heap.size (fun _ => True) v5 x5_3) ∧ Aside0 (Kd.R (Kd.int .i64) 3 w' w.heap.size (fun _ => True) v148 t147) ∧ Aside0 (w'.heap[gb140]? = some (.cells #[.int .i64 a0_0, .int .i64 a0_1, .bool a0_2, .int .i64 a0_3] 39 (0, 0))) ∧ Aside0 (Below w.heap.size w w'))
         case atStart => exact ⟨(y144), (0), zz0, H', ⟨Nat.le_refl _⟩, ⟨by (with_reducible repeat (first | apply Kd.R_alloc | apply Kd.R_drewN | apply Kd.R_drew)); exact HO146.out⟩, ⟨by (with_reducible repeat (first | apply Kd.R_alloc | apply Kd.R_drewN | apply Kd.R_drew)); exact HO149.out⟩, ⟨zz34⟩, ⟨zz10⟩⟩
         case round =>
          clear H'
          try clear c1
          try clear hcv1
          try clear p2
          try clear c4
          try clear c4b0
          try clear c6
          try clear c6b0
          try clear p6
          try clear c8
          try clear c8b0
          try clear c11
          try clear c14
          try clear c15
          try clear c15b0
          try clear hcv19
          try clear hcz10_0
          try clear hcz10_1
          try clear hcz10_2
          try clear hcz10_3
          try clear hcz13_0
          try clear hcz13_1
          try clear hcz13_2
          try clear hcz13_3
          try clear hcz16_0
          try clear hcz16_1
          try clear hcz16_2
          try clear hcz16_3
          try clear hcz21_0
          try clear hcz21_1
          try clear hcz21_2
          try clear hcz21_3
          try clear hcz24_0
          try clear hcz24_1
          try clear hcz24_2
          try clear hcz24_3
          try clear hcz5_0
          try clear hcz5_1
          try clear hcz5_2
          try clear hcz5_3
          try clear hcz7_0
          try clear hcz7_1
          try clear hcz7_2
          try clear hcz7_3
          try clear hcz9_0
          try clear hcz9_1
          try clear hcz9_2
          try clear hcz9_3
          try clear hfz10_0
          try clear hfz10_1
          try clear hfz10_2
          try clear hfz10_3
          try clear hfz13_0
          try clear hfz13_1
          try clear hfz13_2
          try clear hfz13_3
          try clear hfz16_0
          try clear hfz16_1
          try clear hfz16_2
          try clear hfz16_3
          try clear hfz21_0
          try clear hfz21_1
          try clear hfz21_2
          try clear hfz21_3
          try clear hfz24_0
          try clear hfz24_1
          try clear hfz24_2
          try clear hfz24_3
          try clear hfz5_0
          try clear hfz5_1
          try clear hfz5_2
          try clear hfz5_3
          try clear hfz7_0
          try clear hfz7_1
          try clear hfz7_2
          try clear hfz7_3
          try clear hfz9_0
          try clear hfz9_1
          try clear hfz9_2
          try clear hfz9_3
          try clear p2
          try clear p6
          obtain ⟨x5_3, x7_3, rfl, HA, HK3, HO_5, HO_6, BK140, HB⟩ := hrel
          cases gk with
          | zero => exact absurd HA.out (by simp [gantletref05_Put.l0])
          | succ k3 =>
            have H := HA.out
            clear HA
            simp only [gantletref05_Put.l0] at H
            by_cases c26 : x7_3 < (t147.length : Int)
            ·
             rw [if_pos c26] at H
             have c26b0 : decide (x7_3 < (t147.length : Int)) = true := decide_eq_true c26
             clear c26
             by_cases c27 : x7_3 < (wrap64 ((t147.length : Int) - 1))
             ·
              rw [if_pos c27] at H
              have c27b0 : decide (x7_3 < (wrap64 ((t147.length : Int) - 1))) = true := decide_eq_true c27
              clear c27
              by_cases c28 : 0 ≤ x7_3
              ·
               rw [if_pos c28] at H
               have c28b0 : decide (0 ≤ x7_3) = true := decide_eq_true c28
               clear c28
               by_cases c29 : x5_3.length < 140737488355328
               ·
                rw [if_pos c29] at H
                have LMc29 := Aside0.mk c29
                clear c29
                obtain ⟨y151, hy151⟩ : ∃ y_ : List Int, y_ = (x5_3 ++ [(wrap64 (128 + (rd t147 x7_3))) % 256]) := ⟨_, rfl⟩
                replace H : (gantletref05_Put.l0 k3 y151 t147 (wrap64 (x7_3 + 1))) = some (r1, r2) := by first | (rw [hy151]; with_reducible exact H) | (have H2_ := (Option.bind_some _ _).symm.trans H; rw [hy151]; with_reducible exact H2_) | (have H2_ := (Option.bind_some _ _).symm.trans H; with_reducible exact H2_) | with_reducible exact H | (rw [hy151]; exact H) | exact H
                have Ny151 := Aside0.mk hy151
                clear hy151
                have H' := Aside0.mk H
                clear H
                obtain ⟨Ao30, co30, eo30⟩ := Kd.R_slice HO_6.out
                subst eo30
                have p150 : 0 ≤ (x7_3 : Int) := of_decide_eq_true zz6
                have q150 : x7_3 < (t147.length : Int) := of_decide_eq_true zz6
                obtain ⟨ad150, e150, hx150_0⟩ := Kd.at_int (Kd.R_reads' HO_6.out).2.2 x7_3 p150 q150
                cases e150
                replace p150 := eq_true p150
                replace q150 := eq_true q150
                go_wp2_with (first | ((with_reducible refine gate_builtin (b := .append) (xs := #[.tmp 61, .tmp 68]) rfl ?_); at_builtin; refine Kd.R_append (Kd.int .u8) (w0 := w) w.heap.size rfl (.tmp 61) (.tmp 68) 76 5 (.int .u8 0) 1 rfl Try.underlying76 info5 rfl zz13 zz7 u5 x5_3 ((wrap64 (128 + (rd t147 x7_3))) % 256) [.int .u8 ((wrap64 (128 + (rd t147 x7_3))) % 256)] (fun _ => True) (fun _ => False) rfl rfl ?aP (fun _ hk => hk.elim) ?aF ?aO ?aB ?aS ?aL ?_; (case aP => exact rfl); (case aB => exact zz10); (case aF => exact (fun _ _ => trivial)); (case aO => exact zz53); (case aS => exact (below_size zz10)); (case aL => have := LMc29.out; omega); intro v152 w31 ho hb hg hat; rw [← Ny151.out] at ho; have n0_ := Aside0.mk (Kd.R_over' zz72 (Kd.R_typed zz53) zz13 hg); have n1_ := Aside0.mk (blk_grown (g := gb140) (o := .cells #[.int .i64 a0_0, .int .i64 a0_1, .bool a0_2, .int .i64 a0_3] 39 (0, 0)) zz34 hg (Kd.R_ne HO_5.out BK140.out zz13)); have n2_ := Aside0.mk (hb); have n3_ := Aside0.mk (ho); clear HO_6; clear BK140; clear HB; clear HO_5; have HO_6 := n0_; have BK140 := n1_; have HB := n2_; have HO153 := n3_; clear n0_ n1_ n2_ n3_; clear ho hb hg hat))
                go_roundg k3
                case measure => have := HJ1.out; have := HJ11.out; have := HK3.out; omega
                case rel => exact ⟨(y151), (wrap64 (x7_3 + 1)), zz0, H', ⟨zz78⟩, ⟨by (with_reducible repeat (first | apply Kd.R_alloc | apply Kd.R_drewN | apply Kd.R_drew)); exact HO153.out⟩, ⟨zz72⟩, ⟨zz34⟩, ⟨zz10⟩⟩
               ·
                rw [if_neg c29] at H
                exact absurd H zz43
              ·
               rw [if_neg c28] at H
               exact absurd H zz43
             ·
              rw [if_neg c27] at H
              have c27b0 : decide (x7_3 < (wrap64 ((t147.length : Int) - 1))) = false := decide_eq_false c27
              clear c27
              by_cases c32 : 0 ≤ x7_3
              ·
               rw [if_pos c32] at H
               have c32b0 : decide (0 ≤ x7_3) = true := decide_eq_true c32
               clear c32
               by_cases c33 : x5_3.length < 140737488355328
               ·
                rw [if_pos c33] at H
                have LMc33 := Aside0.mk c33
                clear c33
                obtain ⟨y155, hy155⟩ : ∃ y_ : List Int, y_ = (x5_3 ++ [(rd t147 x7_3) % 256]) := ⟨_, rfl⟩
                replace H : (gantletref05_Put.l0 k3 y155 t147 (wrap64 (x7_3 + 1))) = some (r1, r2) := by first | (rw [hy155]; with_reducible exact H) | (have H2_ := (Option.bind_some _ _).symm.trans H; rw [hy155]; with_reducible exact H2_) | (have H2_ := (Option.bind_some _ _).symm.trans H; with_reducible exact H2_) | with_reducible exact H | (rw [hy155]; exact H) | exact H
                have Ny155 := Aside0.mk hy155
                clear hy155
                have H' := Aside0.mk H
                clear H
                obtain ⟨Ao34, co34, eo34⟩ := Kd.R_slice HO_6.out
                subst eo34
                have p154 : 0 ≤ (x7_3 : Int) := of_decide_eq_true zz6
                have q154 : x7_3 < (t147.length : Int) := of_decide_eq_true zz6
                obtain ⟨ad154, e154, hx154_0⟩ := Kd.at_int (Kd.R_reads' HO_6.out).2.2 x7_3 p154 q154
                cases e154
                replace p154 := eq_true p154
                replace q154 := eq_true q154
                go_wp2_with (first | ((with_reducible refine gate_builtin (b := .append) (xs := #[.tmp 70, .tmp 76]) rfl ?_); at_builtin; refine Kd.R_append (Kd.int .u8) (w0 := w) w.heap.size rfl (.tmp 70) (.tmp 76) 76 5 (.int .u8 0) 1 rfl Try.underlying76 info5 rfl zz13 zz7 u5 x5_3 ((rd t147 x7_3) % 256) [.int .u8 ((rd t147 x7_3) % 256)] (fun _ => True) (fun _ => False) rfl rfl ?aP (fun _ hk => hk.elim) ?aF ?aO ?aB ?aS ?aL ?_; (case aP => exact rfl); (case aB => exact zz10); (case aF => exact (fun _ _ => trivial)); (case aO => exact zz53); (case aS => exact (below_size zz10)); (case aL => have := LMc33.out; omega); intro v156 w35 ho hb hg hat; rw [← Ny155.out] at ho; have n0_ := Aside0.mk (Kd.R_over' zz72 (Kd.R_typed zz53) zz13 hg); have n1_ := Aside0.mk (blk_grown (g := gb140) (o := .cells #[.int .i64 a0_0, .int .i64 a0_1, .bool a0_2, .int .i64 a0_3] 39 (0, 0)) zz34 hg (Kd.R_ne HO_5.out BK140.out zz13)); have n2_ := Aside0.mk (hb); have n3_ := Aside0.mk (ho); clear HO_6; clear BK140; clear HB; clear HO_5; have HO_6 := n0_; have BK140 := n1_; have HB := n2_; have HO157 := n3_; clear n0_ n1_ n2_ n3_; clear ho hb hg hat))
                go_roundg k3
                case measure => have := HJ1.out; have := HJ11.out; have := HK3.out; omega
                case rel => exact ⟨(y155), (wrap64 (x7_3 + 1)), zz0, H', ⟨zz78⟩, ⟨by (with_reducible repeat (first | apply Kd.R_alloc | apply Kd.R_drewN | apply Kd.R_drew)); exact HO157.out⟩, ⟨zz72⟩, ⟨zz34⟩, ⟨zz10⟩⟩
               ·
                rw [if_neg c33] at H
                exact absurd H zz43
              ·
               rw [if_neg c32] at H
               exact absurd H zz43
            ·
             rw [if_neg c26] at H
             have c26b0 : decide (x7_3 < (t147.length : Int)) = false := decide_eq_false c26
             clear c26
             simp only [Option.some.injEq, Prod.mk.injEq] at H
             obtain ⟨rfl, rfl⟩ := H
             obtain ⟨Ao36, co36, eo36⟩ := Kd.R_slice HO_6.out
             subst eo36
             have hcv37 := own_string (P := Try.prog) Try.underlying76 Try.underlying5 Try.underlying9 (Kd.own_of_R HO_5.out)
             go_wp2
             go_ret2
             exact ⟨zz3, zz10⟩
end Go.Proofs.Ytgddaddoabjgiaa.PA
namespace Go.Proofs.Ytgddaddoabjgiaa.RId
open RowKit PA YtgddaddoabjgiaaW.PrintWords YtgddaddoabjgiaaW.PrintLast YtgddaddoabjgiaaW.PrintMore
open Idm BId
set_option linter.unusedVariables false
def digits (t : Int) : List Int :=
 if t < 128 then [t]
 else if t < 16384 then [t / 128, t % 128]
 else if t < 2097152 then [t / 128 / 128, t / 128 % 128, t % 128]
 else [t / 128 / 128 / 128, t / 128 / 128 % 128, t / 128 % 128, t % 128]
theorem groups_l0 (k : Nat) (x0 : Int) (x3 : List Int) (h0 : 0 ≤ x0) (hm : x0 ≤ 268435455) (h3 : x3.length < 100) :
 gantletref05_groups.l0 (k + 1) x0 x3 = if x0 > 127 then gantletref05_groups.l0 k (x0 / 128) (x0 / 128 % 128 :: x3) else some x3 := by
 simp only [gantletref05_groups.l0, Option.bind_some]
 split
 ·
  rw [if_pos zz73, Int.tdiv_eq_ediv_of_nonneg h0, w64 zz7 zz7, Int.tmod_eq_emod_of_nonneg zz7]
  rfl
 ·
  rfl
theorem groups_ok (k : Nat) (t : Int) (h0 : 0 ≤ t) (hm : t ≤ 268435455) : gantletref05_groups.f (k + 5) t = some (digits t) := by
 unfold gantletref05_groups.f digits
 rw [Int.tmod_eq_emod_of_nonneg h0, groups_l0 _ _ _ h0 hm zz43]
 by_cases h1 : t < 128
 ·
  rw [if_neg zz7, if_pos h1, show t % 128 = t by omega]
 rw [if_pos zz7, if_neg h1, groups_l0 _ _ _ zz7 zz7 zz43]
 by_cases h2 : t < 16384
 ·
  rw [if_neg zz7, if_pos h2, show t / 128 % 128 = t / 128 by omega]
 rw [if_pos zz7, if_neg h2, groups_l0 _ _ _ zz7 zz7 zz43]
 by_cases h3 : t < 2097152
 ·
  rw [if_neg zz7, if_pos h3, show t / 128 / 128 % 128 = t / 128 / 128 by omega]
 rw [if_pos zz7, if_neg h3, groups_l0 _ _ _ zz7 zz7 zz43, if_neg zz7, show t / 128 / 128 / 128 % 128 = t / 128 / 128 / 128 by omega]
theorem rput_l0 (k : Nat) (x5 x6 : List Int) (i : Nat) (h5 : x5.length < 1000) (h6 : x6.length < 1000) :
 gantletref05_Put.l0 (k + 1) x5 x6 i = if (i : Int) < (x6.length : Int) then (if (i : Int) < (x6.length : Int) - 1 then gantletref05_Put.l0 k (x5 ++ [(wrap64 (128 + (rd x6 i))) % 256]) x6 ((i + 1 : Nat) : Int)
  else gantletref05_Put.l0 k (x5 ++ [(rd x6 i) % 256]) x6 ((i + 1 : Nat) : Int)) else some (strOfNums x5, 0) := by
 simp only [gantletref05_Put.l0]
 split
 ·
  have h9 : x5.length < 140737488355328 := by omega
  have h0 : (0 : Int) ≤ i := by omega
  rw [w64 (x := (x6.length : Int) - 1) zz7 zz7, w64 (x := (i : Int) + 1) zz7 zz7, show ((i : Int) + 1) = ((i + 1 : Nat) : Int) by omega]
  simp only [if_pos h0, if_pos h9]
 ·
  rfl
theorem rput_loop (k : Nat) (b t : Int) (h31 : 31 ≤ t) (hm : t ≤ 268435455) : gantletref05_Put.l0 (k + 6) [b] (digits t) 0 = some (strOfNums (b :: grp t), 0) := by
 unfold digits grp
 have z : (0 : Int) = ((0 : Nat) : Int) := rfl
 rw [z]
 by_cases h1 : t < 128
 ·
  rw [if_pos h1, if_pos h1, rput_l0 _ _ _ _ zz43 zz43, if_pos zz43, if_neg zz43, rput_l0 _ _ _ _ zz43 zz43, if_neg zz43]
  simp [rd]; congr 3; omega
 rw [if_neg h1, if_neg h1]
 by_cases h2 : t < 16384
 ·
  rw [if_pos h2, if_pos h2, rput_l0 _ _ _ _ zz43 zz43, if_pos zz43, if_pos zz43, rput_l0 _ _ _ _ zz43 zz43, if_pos zz43, if_neg zz43, rput_l0 _ _ _ _ zz43 zz43, if_neg zz43]
  simp only [rd, Int.toNat_natCast, List.getD_cons_zero, List.getD_cons_succ, List.cons_append, List.nil_append]
  rw [w64 zz7 zz7, show (128 + t / 128) % 256 = 128 + t / 128 by omega, show t % 128 % 256 = t % 128 by omega]
  rfl
 rw [if_neg h2, if_neg h2]
 by_cases h3 : t < 2097152
 ·
  rw [if_pos h3, if_pos h3, rput_l0 _ _ _ _ zz43 zz43, if_pos zz43, if_pos zz43, rput_l0 _ _ _ _ zz43 zz43, if_pos zz43, if_pos zz43, rput_l0 _ _ _ _ zz43 zz43, if_pos zz43, if_neg zz43, rput_l0 _ _ _ _ zz43 zz43, if_neg zz43]
  simp only [rd, Int.toNat_natCast, List.getD_cons_zero, List.getD_cons_succ, List.cons_append, List.nil_append]
  rw [w64 (x := 128 + t / 128 / 128) zz7 zz7, w64 (x := 128 + t / 128 % 128) zz7 zz7, show (128 + t / 128 / 128) % 256 = 128 + t / 128 / 128 by omega, show (128 + t / 128 % 128) % 256 = 128 + t / 128 % 128 by omega, show t % 128 % 256 = t % 128 by omega]
  rfl
 ·
  rw [if_neg h3, if_neg h3, rput_l0 _ _ _ _ zz43 zz43, if_pos zz43, if_pos zz43, rput_l0 _ _ _ _ zz43 zz43, if_pos zz43, if_pos zz43, rput_l0 _ _ _ _ zz43 zz43, if_pos zz43, if_pos zz43, rput_l0 _ _ _ _ zz43 zz43, if_pos zz43, if_neg zz43, rput_l0 _ _ _ _ zz43 zz43, if_neg zz43]
  simp only [rd, Int.toNat_natCast, List.getD_cons_zero, List.getD_cons_succ, List.cons_append, List.nil_append]
  rw [w64 (x := 128 + t / 128 / 128 / 128) zz7 zz7, w64 (x := 128 + t / 128 / 128 % 128) zz7 zz7, w64 (x := 128 + t / 128 % 128) zz7 zz7,
   show (128 + t / 128 / 128 / 128) % 256 = 128 + t / 128 / 128 / 128 by omega, show (128 + t / 128 / 128 % 128) % 256 = 128 + t / 128 / 128 % 128 by omega, show (128 + t / 128 % 128) % 256 = 128 + t / 128 % 128 by omega, show t % 128 % 256 = t % 128 by omega]
  rfl
theorem rput_ok (k : Nat) {c t : Int} (cons : Bool) (l : Int) (h : Valid c t) : gantletref05_Put.f (k + 9) c t cons l = some (strOfNums (enc c t cons), 0) := by
 obtain ⟨h0, h3, t0, tm⟩ := h
 have hc := cb_range cons
 unfold gantletref05_Put.f
 rw [if_neg zz7, if_neg zz7, if_neg zz7, show decide (t > 268435455) = false by simp; omega]
 have e : gantletref05_Put.j0 (k + 9) false c t cons l = gantletref05_Put.j1 (k + 8) (64 * c + 32 * cb cons) c t cons l := by
  simp only [gantletref05_Put.j0, Bool.false_eq_true, if_false]
  rw [w64 (x := 64 * c) zz7 zz7, w64 (x := 64 * c + 32) zz7 zz7]
  cases cons <;> simp [cb]
 rw [e]
 simp only [gantletref05_Put.j1]
 unfold enc
 by_cases h31 : t < 31
 ·
  rw [if_pos h31, if_pos h31, w64 zz7 zz7, show (64 * c + 32 * cb cons + t) % 256 = 64 * c + 32 * cb cons + t by omega]
 ·
  rw [if_neg h31, if_neg h31, groups_ok (k + 2) t t0 tm, w64 zz7 zz7, show (64 * c + 32 * cb cons + 31) % 256 = 64 * c + 32 * cb cons + 31 by omega]
  exact rput_loop (k + 1) _ t zz7 tm
theorem rput_bad (k : Nat) {c t : Int} (cons : Bool) (l : Int) (h : ¬ Valid c t) : gantletref05_Put.f (k + 1) c t cons l = some (⟨#[]⟩, 1) := by
 unfold gantletref05_Put.f
 have e : gantletref05_Put.j0 (k + 1) true c t cons l = some (⟨#[]⟩, 1) := by simp only [gantletref05_Put.j0, if_true]
 by_cases h1 : c < 0
 ·
  rw [if_pos h1, e]
 by_cases h2 : c > 3
 ·
  rw [if_neg h1, if_pos h2, e]
 by_cases h3 : t < 0
 ·
  rw [if_neg h1, if_neg h2, if_pos h3, e]
 by_cases h4 : t > 268435455
 ·
  rw [if_neg h1, if_neg h2, if_neg h3, show decide (t > 268435455) = true by simpa using h4, e]
 ·
  exact absurd ⟨zz7, zz7, zz7, zz7⟩ h
end Go.Proofs.Ytgddaddoabjgiaa.RId
namespace Go.Proofs.Ytgddaddoabjgiaa.PA
open RowKit YtgddaddoabjgiaaW.PrintWords YtgddaddoabjgiaaW.PrintLast YtgddaddoabjgiaaW.PrintMore
attribute [local go_sem] max2_int min2_int max_two min_two max_three min_three max_four min_four
set_option linter.unusedVariables false
set_option linter.unusedSimpArgs false
mutual
def gantletref06_Put.j0 : Nat → Int → Bool → Option (ByteArray × Int)
 | 0, _, _ => none
 | k + 1, x0, x10 => if x10 = true then (some ((⟨#[]⟩ : ByteArray), 1)) else (if x0 < 128 then (some (strOfNums (([(x0) % 256] : List Int)), 0)) else (gantletref06_Put.l0 k x0 (([] : List Int))))
def gantletref06_Put.l0 : Nat → Int → List Int → Option (ByteArray × Int)
 | 0, _, _ => none
 | k + 1, x0, x4 => if x0 > 0 then ((some (([(Int.tmod x0 256) % 256] : List Int) : List Int)).bind fun y164 => (if y164.length + x4.length < 140737488355328 then (gantletref06_Put.l0 k (wrap64 (Int.tdiv x0 256)) (y164 ++ x4)) else (none))) else ((some (([(wrap64 (128 + (x4.length : Int))) % 256] : List Int) : List Int)).bind fun y170 => (if (strOfNums y170).size + (strOfNums x4).size ≤ 9223372036854775807 then (some ((strOfNums y170) ++ (strOfNums x4), 0)) else (none)))
end
def gantletref06_Put.f (k : Nat) (a0 : Int) : Option (ByteArray × Int) := if a0 < 0 then (gantletref06_Put.j0 k a0 true) else (gantletref06_Put.j0 k a0 (decide (a0 > 2305843009213693951)))
set_option maxHeartbeats 8000000 in
set_option maxRecDepth 100000 in
theorem gantletref06_Put.calls (k : Nat) (a0 : Int) (r1 : ByteArray) (r2 : Int) (w : World) (h : gantletref06_Put.f k a0 = some (r1, r2)) :
 Calls Try.prog 65 #[.int .i64 a0] w fun e w' => e = .returned (.tuple #[.string r1, .int .i64 r2]) ∧ Below w.heap.size w w' := by
 have HB := Aside0.mk (Below.refl w.heap.size w)
 have H : (if a0 < 0 then (gantletref06_Put.j0 k a0 true) else (gantletref06_Put.j0 k a0 (decide (a0 > 2305843009213693951)))) = some (r1, r2) := h
 clear h
 have HC2 := Aside0.mk H
 clear H
 go_enter Try.func65, Try.ntmps65
 go_upto_region 1 with (fail)
 go_cut [10] (fun v10 wc => ∃ (kq : Nat) (x10_1 : Bool), v10 = .bool x10_1 ∧ Aside0 (gantletref06_Put.j0 kq a0 x10_1 = some (r1, r2)) ∧ Aside0 (kq ≤ k) ∧ Aside0 (Below w.heap.size w wc))
 case first =>
  have H := HC2.out
  clear HC2
  by_cases c3 : a0 < 0
  ·
   rw [if_pos c3] at H
   have c3b0 : decide (a0 < 0) = true := decide_eq_true c3
   clear c3
   (first | rw [c3b0] | (simp only [i64_w, i32_w]; rw [c3b0]) | skip)
   have H' := Aside0.mk H
   clear H
   go_wp2
   go_meet
   case rel => exact ⟨_, (true), zz0, H', ⟨zz28⟩, ⟨zz1⟩⟩
  ·
   rw [if_neg c3] at H
   have c3b0 : decide (a0 < 0) = false := decide_eq_false c3
   clear c3
   (first | rw [c3b0] | (simp only [i64_w, i32_w]; rw [c3b0]) | skip)
   have H' := Aside0.mk H
   clear H
   go_wp2
   go_meet
   case rel => exact ⟨_, (decide (a0 > 2305843009213693951)), zz0, H', ⟨zz28⟩, ⟨zz1⟩⟩
 case rest =>
  clear HC2
  try clear p2
  try clear c3
  try clear c3b0
  obtain ⟨kq, x10_1, rfl, HA, HJ1, HB⟩ := hcut
  cases kq with
  | zero => exact absurd HA.out (by simp [gantletref06_Put.j0])
  | succ kj1 =>
    have H := HA.out
    clear HA
    simp only [gantletref06_Put.j0] at H
    by_cases c4 : x10_1 = true
    ·
     subst c4
     have H1 : (some ((⟨#[]⟩ : ByteArray), 1)) = some (r1, r2) := by rw [if_pos rfl] at H; exact H
     clear H
     have H := H1
     clear H1
     simp only [Option.some.injEq, Prod.mk.injEq] at H
     obtain ⟨rfl, rfl⟩ := H
     go_wp2
     go_ret2
     exact ⟨zz3, zz1⟩
    ·
     replace c4 := Bool.eq_false_iff.mpr c4
     subst c4
     have H1 : (if a0 < 128 then (some (strOfNums (([(a0) % 256] : List Int)), 0)) else (gantletref06_Put.l0 kj1 a0 (([] : List Int)))) = some (r1, r2) := by rw [if_neg (show ¬ (false = true) by decide)] at H; exact H
     clear H
     have H := H1
     clear H1
     by_cases c5 : a0 < 128
     ·
      rw [if_pos c5] at H
      have c5b0 : decide (a0 < 128) = true := decide_eq_true c5
      clear c5
      obtain ⟨y158, hy158⟩ : ∃ y_ : List Int, y_ = (([(a0) % 256] : List Int)) := ⟨_, rfl⟩
      replace H : (some (strOfNums y158, 0)) = some (r1, r2) := by first | (rw [hy158]; with_reducible exact H) | (have H2_ := (Option.bind_some _ _).symm.trans H; rw [hy158]; with_reducible exact H2_) | (have H2_ := (Option.bind_some _ _).symm.trans H; with_reducible exact H2_) | with_reducible exact H | (rw [hy158]; exact H) | exact H
      have Ny158 := Aside0.mk hy158
      clear hy158
      simp only [Option.some.injEq, Prod.mk.injEq] at H
      obtain ⟨rfl, rfl⟩ := H
      go_wp2_with (first | ((with_reducible refine gate_dst (N := 15) rfl ?_); refine Kd.R_lit (Kd.int .u8) _ 5 ?hg (N := 15) ?hd (xs := ([(a0) % 256] : List Int)) (inner := [.int .u8 ((a0) % 256)]) (ok := fun _ => True) (okp := fun _ => True) ?hr ?hp (fun _ hk => hk) trivial (Below.refl _ _) (Nat.le_refl _) zz43 ?_; (case hd => rfl); (case hg => rfl); (case hr => first | (go_simp; done) | (go_simp; rfl)); (case hp => exact (Reps.one (show Kd.M (Kd.int .u8) _ _ _ ((a0) % 256) [.int .u8 ((a0) % 256)] from rfl) (Reps.none _ _))); intro v159 w6 ho7 hb hg_ hnew_; clear hg_ hnew_; (first | rw [← Ny158.out] at ho7 | (simp only [Int.reduceToNat] at ho7; rw [← Ny158.out] at ho7)); have n0_ := Aside0.mk (Kd.R_lower ho7 (below_size zz1)); have n1_ := Aside0.mk (below_step zz1 hb); clear HB; have HO160 := n0_; have HB := n1_; clear n0_ n1_; clear hb ho7; have hcv8 := own_string (P := Try.prog) Try.underlying76 Try.underlying5 Try.underlying9 (Kd.own_of_R HO160.out)))
      go_ret2
      exact ⟨zz3, zz1⟩
     ·
      rw [if_neg c5] at H
      have c5b0 : decide (a0 < 128) = false := decide_eq_false c5
      clear c5
      obtain ⟨y161, hy161⟩ : ∃ y_ : List Int, y_ = (([] : List Int)) := ⟨_, rfl⟩
      replace H : (gantletref06_Put.l0 kj1 a0 y161) = some (r1, r2) := by first | (rw [hy161]; with_reducible exact H) | (have H2_ := (Option.bind_some _ _).symm.trans H; rw [hy161]; with_reducible exact H2_) | (have H2_ := (Option.bind_some _ _).symm.trans H; with_reducible exact H2_) | with_reducible exact H | (rw [hy161]; exact H) | exact H
      have Ny161 := Aside0.mk hy161
      clear hy161
      have H' := Aside0.mk H
      clear H
      go_wp2_with (first | ((with_reducible refine gate_dst (N := 17) rfl ?_); refine Kd.R_lit (Kd.int .u8) _ 5 ?hg (N := 17) ?hd (xs := ([] : List Int)) (inner := []) (ok := fun _ => True) (okp := fun _ => True) ?hr ?hp (fun _ hk => hk) trivial (Below.refl _ _) (Nat.le_refl _) zz43 ?_; (case hd => rfl); (case hg => rfl); (case hr => first | (go_simp; done) | (go_simp; rfl)); (case hp => exact (Reps.none _ _)); intro v162 w9 ho10 hb hg_ hnew_; clear hg_ hnew_; (first | rw [← Ny161.out] at ho10 | (simp only [Int.reduceToNat] at ho10; rw [← Ny161.out] at ho10)); have n0_ := Aside0.mk (Kd.R_lower ho10 (below_size zz1)); have n1_ := Aside0.mk (below_step zz1 hb); clear HB; have HO163 := n0_; have HB := n1_; clear n0_ n1_; clear hb ho10))
      go_loopg [0, 4] kj1 (fun kq v0 v4 w' => ∃ (x0_2 : Int) (x4_2 : List Int), v0 = .int .i64 x0_2 ∧ Aside0 (gantletref06_Put.l0 kq x0_2 x4_2 = some (r1, r2)) ∧ Aside0 (kq ≤ kj1) ∧ Aside0 (Kd.R (Kd.int .u8) 5 w' w.heap.size (fun _ => True) v4 x4_2) ∧ Aside0 (Below w.heap.size w w'))
      case atStart => exact ⟨(a0), (y161), zz0, H', ⟨Nat.le_refl _⟩, ⟨by (with_reducible repeat (first | apply Kd.R_alloc | apply Kd.R_drewN | apply Kd.R_drew)); exact HO163.out⟩, ⟨zz1⟩⟩
      case round =>
       clear H'
       try clear p2
       try clear c3
       try clear c3b0
       try clear c4
       try clear c5
       try clear c5b0
       try clear c6
       try clear hcv8
       try clear p2
       obtain ⟨x0_2, x4_2, rfl, HA, HK2, HO_4, HB⟩ := hrel
       cases gk with
       | zero => exact absurd HA.out (by simp [gantletref06_Put.l0])
       | succ k2 =>
         have H := HA.out
         clear HA
         simp only [gantletref06_Put.l0] at H
         by_cases c11 : x0_2 > 0
         ·
          rw [if_pos c11] at H
          have c11b0 : decide (0 < x0_2) = true := decide_eq_true c11
          clear c11
          obtain ⟨y164, hy164⟩ : ∃ y_ : List Int, y_ = (([(Int.tmod x0_2 256) % 256] : List Int)) := ⟨_, rfl⟩
          replace H : (if y164.length + x4_2.length < 140737488355328 then (gantletref06_Put.l0 k2 (wrap64 (Int.tdiv x0_2 256)) (y164 ++ x4_2)) else (none)) = some (r1, r2) := by first | (rw [hy164]; with_reducible exact H) | (have H2_ := (Option.bind_some _ _).symm.trans H; rw [hy164]; with_reducible exact H2_) | (have H2_ := (Option.bind_some _ _).symm.trans H; with_reducible exact H2_) | with_reducible exact H | (rw [hy164]; exact H) | exact H
          have Ny164 := Aside0.mk hy164
          clear hy164
          by_cases c12 : y164.length + x4_2.length < 140737488355328
          ·
           rw [if_pos c12] at H
           have LMc12 := Aside0.mk c12
           clear c12
           obtain ⟨y167, hy167⟩ : ∃ y_ : List Int, y_ = (y164 ++ x4_2) := ⟨_, rfl⟩
           replace H : (gantletref06_Put.l0 k2 (wrap64 (Int.tdiv x0_2 256)) y167) = some (r1, r2) := by first | (rw [hy167]; with_reducible exact H) | (have H2_ := (Option.bind_some _ _).symm.trans H; rw [hy167]; with_reducible exact H2_) | (have H2_ := (Option.bind_some _ _).symm.trans H; with_reducible exact H2_) | with_reducible exact H | (rw [hy167]; exact H) | exact H
           have Ny167 := Aside0.mk hy167
           clear hy167
           have H' := Aside0.mk H
           clear H
           go_wp2_with (first | ((with_reducible refine gate_dst (N := 23) rfl ?_); refine Kd.R_lit (Kd.int .u8) _ 5 ?hg (N := 23) ?hd (xs := ([(Int.tmod x0_2 256) % 256] : List Int)) (inner := [.int .u8 ((Int.tmod x0_2 256) % 256)]) (ok := fun _ => True) (okp := fun _ => True) ?hr ?hp (fun _ hk => hk) trivial (Below.refl _ _) (Nat.le_refl _) zz43 ?_; (case hd => rfl); (case hg => rfl); (case hr => first | (go_simp; done) | (go_simp; rfl)); (case hp => exact (Reps.one (show Kd.M (Kd.int .u8) _ _ _ ((Int.tmod x0_2 256) % 256) [.int .u8 ((Int.tmod x0_2 256) % 256)] from rfl) (Reps.none _ _))); intro v165 w13 ho14 hb hg_ hnew_; clear hg_ hnew_; (first | rw [← Ny164.out] at ho14 | (simp only [Int.reduceToNat] at ho14; rw [← Ny164.out] at ho14)); have n0_ := Aside0.mk (Kd.R_elder' zz42 (Kd.R_base ho14) hb); have n1_ := Aside0.mk (Kd.R_lower (Kd.R_new' ho14 (Kd.R_lt zz42)) (below_size zz1)); have n2_ := Aside0.mk (below_step zz1 hb); clear HO_4; clear HB; have HO_4 := n0_; have HO166 := n1_; have HB := n2_; clear n0_ n1_ n2_; clear hb ho14; obtain ⟨Ao16, co16, eo16⟩ := Kd.R_slice HO_4.out; subst eo16) | ((with_reducible refine gate_builtin (b := .append) (xs := #[.tmp 23, .tmp 24]) rfl ?_); at_builtin; refine Kd.R_append_rows (Kd.int .u8) (w0 := w) w.heap.size rfl (.tmp 23) (.tmp 24) 76 5 (.int .u8 0) 1 rfl Try.underlying76 info5 rfl zz13 zz7 v165 y164 x4_2 _ _ _ (fun k_ => some k_ ≠ (.slice Ao16 x4_2.length co16 : Value).ownBlock) (fun _ => False) rfl rfl ?aO ?aR (fun _ _ h => h) (fun _ h => h.elim) ?aF ?aB ?aS ?aL ?_; (case aR => repeat (first | exact (Kd.R_reads' HO_4.out).2.2 | (with_reducible refine Kd.C_alloc ?_ _) | (with_reducible refine Kd.C_drewN ?_ _) | (with_reducible refine Kd.C_drew ?_))); (case aB => exact zz1); (case aF => exact (fun k_ hk => Kd.fresh' (Kd.R_lt zz42) k_ hk)); (case aO => exact (by (with_reducible repeat (first | apply Kd.R_alloc | apply Kd.R_drewN | apply Kd.R_drew)); exact Kd.R_mono HO166.out (fun _ hk => hk.2))); (case aS => exact (below_size zz1)); (case aL => have := LMc12.out; omega); intro v168 w15 ho hb hg hat; rw [← Ny167.out] at ho; have n0_ := Aside0.mk (Kd.R_after (ok := (fun _ => True)) zz42 hg hat); have n1_ := Aside0.mk (hb); have n2_ := Aside0.mk (ho); clear HO_4; clear HB; clear HO166; have HO_4 := n0_; have HB := n1_; have HO169 := n2_; clear n0_ n1_ n2_; clear ho hb hg hat))
           go_roundg k2
           case measure => have := HJ1.out; have := HK2.out; omega
           case rel => exact ⟨(wrap64 (Int.tdiv x0_2 256)), (y167), zz0, H', ⟨by have := HJ1.out; have := HK2.out; omega⟩, ⟨by (with_reducible repeat (first | apply Kd.R_alloc | apply Kd.R_drewN | apply Kd.R_drew)); exact Kd.R_mono HO169.out (fun _ hk => trivial)⟩, ⟨zz1⟩⟩
          ·
           rw [if_neg c12] at H
           exact absurd H zz43
         ·
          rw [if_neg c11] at H
          have c11b0 : decide (0 < x0_2) = false := decide_eq_false c11
          clear c11
          obtain ⟨y170, hy170⟩ : ∃ y_ : List Int, y_ = (([(wrap64 (128 + (x4_2.length : Int))) % 256] : List Int)) := ⟨_, rfl⟩
          replace H : (if (strOfNums y170).size + (strOfNums x4_2).size ≤ 9223372036854775807 then (some ((strOfNums y170) ++ (strOfNums x4_2), 0)) else (none)) = some (r1, r2) := by first | (rw [hy170]; with_reducible exact H) | (have H2_ := (Option.bind_some _ _).symm.trans H; rw [hy170]; with_reducible exact H2_) | (have H2_ := (Option.bind_some _ _).symm.trans H; with_reducible exact H2_) | with_reducible exact H | (rw [hy170]; exact H) | exact H
          have Ny170 := Aside0.mk hy170
          clear hy170
          by_cases c17 : (strOfNums y170).size + (strOfNums x4_2).size ≤ 9223372036854775807
          ·
           rw [if_pos c17] at H
           have c17b0 := eq_true c17
           have c17b1 : decide ((strOfNums y170).size + (strOfNums x4_2).size ≤ 9223372036854775807) = true := decide_eq_true c17
           try have c17b2 : (9223372036854775807 < (strOfNums y170).size + (strOfNums x4_2).size) = False := eq_false (Nat.not_lt.2 c17)
           simp only [Option.some.injEq, Prod.mk.injEq] at H
           obtain ⟨rfl, rfl⟩ := H
           obtain ⟨Ao18, co18, eo18⟩ := Kd.R_slice HO_4.out
           subst eo18
           go_wp2_with (first | ((with_reducible refine gate_dst (N := 32) rfl ?_); refine Kd.R_lit (Kd.int .u8) _ 5 ?hg (N := 32) ?hd (xs := ([(wrap64 (128 + (x4_2.length : Int))) % 256] : List Int)) (inner := [.int .u8 ((wrap64 (128 + (x4_2.length : Int))) % 256)]) (ok := fun _ => True) (okp := fun _ => True) ?hr ?hp (fun _ hk => hk) trivial (Below.refl _ _) (Nat.le_refl _) zz43 ?_; (case hd => rfl); (case hg => rfl); (case hr => first | (go_simp; done) | (go_simp; rfl)); (case hp => exact (Reps.one (show Kd.M (Kd.int .u8) _ _ _ ((wrap64 (128 + (x4_2.length : Int))) % 256) [.int .u8 ((wrap64 (128 + (x4_2.length : Int))) % 256)] from rfl) (Reps.none _ _))); intro v171 w19 ho20 hb hg_ hnew_; clear hg_ hnew_; (first | rw [← Ny170.out] at ho20 | (simp only [Int.reduceToNat] at ho20; rw [← Ny170.out] at ho20)); have n0_ := Aside0.mk (Kd.R_elder' zz42 (Kd.R_base ho20) hb); have n1_ := Aside0.mk (Kd.R_lower (Kd.R_new' ho20 (Kd.R_lt zz42)) (below_size zz1)); have n2_ := Aside0.mk (below_step zz1 hb); clear HO_4; clear HB; have HO_4 := n0_; have HO172 := n1_; have HB := n2_; clear n0_ n1_ n2_; clear hb ho20; have hcv21 := own_string (P := Try.prog) Try.underlying76 Try.underlying5 Try.underlying9 (Kd.own_of_R HO172.out); have hcv22 := own_string (P := Try.prog) Try.underlying76 Try.underlying5 Try.underlying9 (Kd.own_of_R HO_4.out)))
           go_ret2
           exact ⟨zz3, zz1⟩
          ·
           rw [if_neg c17] at H
           exact absurd H zz43
def gantletref07_Put.f (k : Nat) (a0_0 : Int) (a0_1 : Int) (a0_2 : Bool) (a0_3 : Int) : Option (ByteArray × Int) := (gantletref05_Put.f k a0_0 a0_1 a0_2 a0_3).bind fun bt174 => (if bt174.2 = 0 then ((gantletref06_Put.f k a0_3).bind fun bt176 => (if bt176.2 = 0 then (if bt174.1.size + bt176.1.size ≤ 9223372036854775807 then (some (bt174.1 ++ bt176.1, 0)) else (none)) else (some ((⟨#[]⟩ : ByteArray), bt176.2)))) else (some ((⟨#[]⟩ : ByteArray), bt174.2)))
set_option maxHeartbeats 8000000 in
set_option maxRecDepth 100000 in
theorem gantletref07_Put.calls (k : Nat) (a0_0 : Int) (a0_1 : Int) (a0_2 : Bool) (a0_3 : Int) (r1 : ByteArray) (r2 : Int) (w : World) (h : gantletref07_Put.f k a0_0 a0_1 a0_2 a0_3 = some (r1, r2)) :
 Calls Try.prog 44 #[.agg #[.int .i64 a0_0, .int .i64 a0_1, .bool a0_2, .int .i64 a0_3]] w fun e w' => e = .returned (.tuple #[.string r1, .int .i64 r2]) ∧ Below w.heap.size w w' := by
 have hu39 := Try.underlying39
 have HB := Aside0.mk (Below.refl w.heap.size w)
 have H : ((gantletref05_Put.f k a0_0 a0_1 a0_2 a0_3).bind fun bt174 => (if bt174.2 = 0 then ((gantletref06_Put.f k a0_3).bind fun bt176 => (if bt176.2 = 0 then (if bt174.1.size + bt176.1.size ≤ 9223372036854775807 then (some (bt174.1 ++ bt176.1, 0)) else (none)) else (some ((⟨#[]⟩ : ByteArray), bt176.2)))) else (some ((⟨#[]⟩ : ByteArray), bt174.2)))) = some (r1, r2) := h
 clear h
 replace H := Option.bind_eq_some_iff.mp H
 obtain ⟨⟨t174, t175⟩, A20, H⟩ := H
 replace H : (if t175 = 0 then ((gantletref06_Put.f k a0_3).bind fun bt176 => (if bt176.2 = 0 then (if t174.size + bt176.1.size ≤ 9223372036854775807 then (some (t174 ++ bt176.1, 0)) else (none)) else (some ((⟨#[]⟩ : ByteArray), bt176.2)))) else (some ((⟨#[]⟩ : ByteArray), t175))) = some (r1, r2) := H
 have A2 := Aside0.mk A20
 clear A20
 by_cases c3 : t175 = 0
 ·
  rw [if_pos c3] at H
  have c3b0 : (t175 == 0) = true := beq_iff_eq.mpr c3
  have c3b1 : (t175 != 0) = false := bne_eq_false_iff_eq.mpr c3
  clear c3
  replace H := Option.bind_eq_some_iff.mp H
  obtain ⟨⟨t176, t177⟩, A40, H⟩ := H
  replace H : (if t177 = 0 then (if t174.size + t176.size ≤ 9223372036854775807 then (some (t174 ++ t176, 0)) else (none)) else (some ((⟨#[]⟩ : ByteArray), t177))) = some (r1, r2) := H
  have A4 := Aside0.mk A40
  clear A40
  by_cases c5 : t177 = 0
  ·
   rw [if_pos c5] at H
   have c5b0 : (t177 == 0) = true := beq_iff_eq.mpr c5
   have c5b1 : (t177 != 0) = false := bne_eq_false_iff_eq.mpr c5
   clear c5
   by_cases c6 : t174.size + t176.size ≤ 9223372036854775807
   ·
    rw [if_pos c6] at H
    have c6b0 := eq_true c6
    have c6b1 : decide (t174.size + t176.size ≤ 9223372036854775807) = true := decide_eq_true c6
    try have c6b2 : (9223372036854775807 < t174.size + t176.size) = False := eq_false (Nat.not_lt.2 c6)
    simp only [Option.some.injEq, Prod.mk.injEq] at H
    obtain ⟨rfl, rfl⟩ := H
    go_enter Try.func44, Try.ntmps44
    go_wp2_with (first | ((with_reducible refine gate_dst (N := 1) rfl ?_); refine zzbx (N := 1) (cs := #[.int .i64 a0_0, .int .i64 a0_1, .bool a0_2, .int .i64 a0_3]) (t := 39) ?_; intro gb173 hg w7 hbox hb; have n0_ := Aside0.mk (below_step zz1 hb); have n1_ := Aside0.mk (hbox); have n2_ := Aside0.mk ((zz15 : w.heap.size ≤ gb173)); have n3_ := Aside0.mk ((zz15 : w.heap.size ≤ gb173)); clear HB; have HB := n0_; have BK173 := n1_; have GW173 := n2_; have GE173 := n3_; clear n0_ n1_ n2_ n3_; clear hb hbox hg; have hcz8_0 : w7.cell? ⟨gb173, 0, none⟩ = some (.int .i64 a0_0) := (blk_cell BK173.out 0).trans rfl; have hcz8_1 : w7.cell? ⟨gb173, 1, none⟩ = some (.int .i64 a0_1) := (blk_cell BK173.out 1).trans rfl; have hcz8_2 : w7.cell? ⟨gb173, 2, none⟩ = some (.bool a0_2) := (blk_cell BK173.out 2).trans rfl; have hcz8_3 : w7.cell? ⟨gb173, 3, none⟩ = some (.int .i64 a0_3) := (blk_cell BK173.out 3).trans rfl; have hfz8_0 := blk_frozen BK173.out 0; have hfz8_1 := blk_frozen BK173.out 1; have hfz8_2 := blk_frozen BK173.out 2; have hfz8_3 := blk_frozen BK173.out 3) | ((with_reducible refine gate_callee (f := 64) rfl ?_); refine goesL_ (some 9) rfl rfl Try.func64 zz4 rfl #[.agg #[.int .i64 a0_0, .int .i64 a0_1, .bool a0_2, .int .i64 a0_3]] rfl zz5 ?_; (with_reducible refine (gantletref05_Put.calls k a0_0 a0_1 a0_2 a0_3 t174 t175 _ A2.out).mono ?_); rintro e w9 ⟨rfl, hb⟩; refine ⟨_, rfl, ?_⟩; have n0_ := Aside0.mk (blk_below (g := gb173) (o := .cells #[.int .i64 a0_0, .int .i64 a0_1, .bool a0_2, .int .i64 a0_3] 39 (0, 0)) zz21 hb); have n1_ := Aside0.mk (below_step zz19 hb); clear BK173; clear HB; have BK173 := n0_; have HB := n1_; clear n0_ n1_; (try clear hb); (try clear hb2); (try clear hk); (try clear hi); have hcz10_0 : w9.cell? ⟨gb173, 0, none⟩ = some (.int .i64 a0_0) := (blk_cell BK173.out 0).trans rfl; have hcz10_1 : w9.cell? ⟨gb173, 1, none⟩ = some (.int .i64 a0_1) := (blk_cell BK173.out 1).trans rfl; have hcz10_2 : w9.cell? ⟨gb173, 2, none⟩ = some (.bool a0_2) := (blk_cell BK173.out 2).trans rfl; have hcz10_3 : w9.cell? ⟨gb173, 3, none⟩ = some (.int .i64 a0_3) := (blk_cell BK173.out 3).trans rfl; have hfz10_0 := blk_frozen BK173.out 0; have hfz10_1 := blk_frozen BK173.out 1; have hfz10_2 := blk_frozen BK173.out 2; have hfz10_3 := blk_frozen BK173.out 3) | ((with_reducible refine gate_callee (f := 65) rfl ?_); refine goesL_ (some 18) rfl rfl Try.func65 zz4 rfl #[.int .i64 a0_3] rfl zz5 ?_; (with_reducible refine (gantletref06_Put.calls k a0_3 t176 t177 _ A4.out).mono ?_); rintro e w11 ⟨rfl, hb⟩; refine ⟨_, rfl, ?_⟩; have n0_ := Aside0.mk (blk_below (g := gb173) (o := .cells #[.int .i64 a0_0, .int .i64 a0_1, .bool a0_2, .int .i64 a0_3] 39 (0, 0)) zz21 hb); have n1_ := Aside0.mk (below_step zz19 hb); clear BK173; clear HB; have BK173 := n0_; have HB := n1_; clear n0_ n1_; (try clear hb); (try clear hb2); (try clear hk); (try clear hi)))
    go_ret2
    exact ⟨zz3, zz19⟩
   ·
    rw [if_neg c6] at H
    exact absurd H zz43
  ·
   rw [if_neg c5] at H
   have c5b0 : (t177 == 0) = false := beq_eq_false_iff_ne.mpr c5
   have c5b1 : (t177 != 0) = true := bne_iff_ne.mpr c5
   simp only [Option.some.injEq, Prod.mk.injEq] at H
   obtain ⟨rfl, rfl⟩ := H
   go_enter Try.func44, Try.ntmps44
   go_wp2_with (first | ((with_reducible refine gate_dst (N := 1) rfl ?_); refine zzbx (N := 1) (cs := #[.int .i64 a0_0, .int .i64 a0_1, .bool a0_2, .int .i64 a0_3]) (t := 39) ?_; intro gb173 hg w12 hbox hb; have n0_ := Aside0.mk (below_step zz1 hb); have n1_ := Aside0.mk (hbox); have n2_ := Aside0.mk ((zz15 : w.heap.size ≤ gb173)); have n3_ := Aside0.mk ((zz15 : w.heap.size ≤ gb173)); clear HB; have HB := n0_; have BK173 := n1_; have GW173 := n2_; have GE173 := n3_; clear n0_ n1_ n2_ n3_; clear hb hbox hg; have hcz13_0 : w12.cell? ⟨gb173, 0, none⟩ = some (.int .i64 a0_0) := (blk_cell BK173.out 0).trans rfl; have hcz13_1 : w12.cell? ⟨gb173, 1, none⟩ = some (.int .i64 a0_1) := (blk_cell BK173.out 1).trans rfl; have hcz13_2 : w12.cell? ⟨gb173, 2, none⟩ = some (.bool a0_2) := (blk_cell BK173.out 2).trans rfl; have hcz13_3 : w12.cell? ⟨gb173, 3, none⟩ = some (.int .i64 a0_3) := (blk_cell BK173.out 3).trans rfl; have hfz13_0 := blk_frozen BK173.out 0; have hfz13_1 := blk_frozen BK173.out 1; have hfz13_2 := blk_frozen BK173.out 2; have hfz13_3 := blk_frozen BK173.out 3) | ((with_reducible refine gate_callee (f := 64) rfl ?_); refine goesL_ (some 9) rfl rfl Try.func64 zz4 rfl #[.agg #[.int .i64 a0_0, .int .i64 a0_1, .bool a0_2, .int .i64 a0_3]] rfl zz5 ?_; (with_reducible refine (gantletref05_Put.calls k a0_0 a0_1 a0_2 a0_3 t174 t175 _ A2.out).mono ?_); rintro e w14 ⟨rfl, hb⟩; refine ⟨_, rfl, ?_⟩; have n0_ := Aside0.mk (blk_below (g := gb173) (o := .cells #[.int .i64 a0_0, .int .i64 a0_1, .bool a0_2, .int .i64 a0_3] 39 (0, 0)) zz21 hb); have n1_ := Aside0.mk (below_step zz19 hb); clear BK173; clear HB; have BK173 := n0_; have HB := n1_; clear n0_ n1_; (try clear hb); (try clear hb2); (try clear hk); (try clear hi); have hcz15_0 : w14.cell? ⟨gb173, 0, none⟩ = some (.int .i64 a0_0) := (blk_cell BK173.out 0).trans rfl; have hcz15_1 : w14.cell? ⟨gb173, 1, none⟩ = some (.int .i64 a0_1) := (blk_cell BK173.out 1).trans rfl; have hcz15_2 : w14.cell? ⟨gb173, 2, none⟩ = some (.bool a0_2) := (blk_cell BK173.out 2).trans rfl; have hcz15_3 : w14.cell? ⟨gb173, 3, none⟩ = some (.int .i64 a0_3) := (blk_cell BK173.out 3).trans rfl; have hfz15_0 := blk_frozen BK173.out 0; have hfz15_1 := blk_frozen BK173.out 1; have hfz15_2 := blk_frozen BK173.out 2; have hfz15_3 := blk_frozen BK173.out 3) | ((with_reducible refine gate_callee (f := 65) rfl ?_); refine goesL_ (some 18) rfl rfl Try.func65 zz4 rfl #[.int .i64 a0_3] rfl zz5 ?_; (with_reducible refine (gantletref06_Put.calls k a0_3 t176 t177 _ A4.out).mono ?_); rintro e w16 ⟨rfl, hb⟩; refine ⟨_, rfl, ?_⟩; have n0_ := Aside0.mk (blk_below (g := gb173) (o := .cells #[.int .i64 a0_0, .int .i64 a0_1, .bool a0_2, .int .i64 a0_3] 39 (0, 0)) zz21 hb); have n1_ := Aside0.mk (below_step zz19 hb); clear BK173; clear HB; have BK173 := n0_; have HB := n1_; clear n0_ n1_; (try clear hb); (try clear hb2); (try clear hk); (try clear hi)))
   go_ret2
   exact ⟨zz3, zz19⟩
 ·
  rw [if_neg c3] at H
  have c3b0 : (t175 == 0) = false := beq_eq_false_iff_ne.mpr c3
  have c3b1 : (t175 != 0) = true := bne_iff_ne.mpr c3
  simp only [Option.some.injEq, Prod.mk.injEq] at H
  obtain ⟨rfl, rfl⟩ := H
  go_enter Try.func44, Try.ntmps44
  go_wp2_with (first | ((with_reducible refine gate_dst (N := 1) rfl ?_); refine zzbx (N := 1) (cs := #[.int .i64 a0_0, .int .i64 a0_1, .bool a0_2, .int .i64 a0_3]) (t := 39) ?_; intro gb173 hg w17 hbox hb; have n0_ := Aside0.mk (below_step zz1 hb); have n1_ := Aside0.mk (hbox); have n2_ := Aside0.mk ((zz15 : w.heap.size ≤ gb173)); have n3_ := Aside0.mk ((zz15 : w.heap.size ≤ gb173)); clear HB; have HB := n0_; have BK173 := n1_; have GW173 := n2_; have GE173 := n3_; clear n0_ n1_ n2_ n3_; clear hb hbox hg; have hcz18_0 : w17.cell? ⟨gb173, 0, none⟩ = some (.int .i64 a0_0) := (blk_cell BK173.out 0).trans rfl; have hcz18_1 : w17.cell? ⟨gb173, 1, none⟩ = some (.int .i64 a0_1) := (blk_cell BK173.out 1).trans rfl; have hcz18_2 : w17.cell? ⟨gb173, 2, none⟩ = some (.bool a0_2) := (blk_cell BK173.out 2).trans rfl; have hcz18_3 : w17.cell? ⟨gb173, 3, none⟩ = some (.int .i64 a0_3) := (blk_cell BK173.out 3).trans rfl; have hfz18_0 := blk_frozen BK173.out 0; have hfz18_1 := blk_frozen BK173.out 1; have hfz18_2 := blk_frozen BK173.out 2; have hfz18_3 := blk_frozen BK173.out 3) | ((with_reducible refine gate_callee (f := 64) rfl ?_); refine goesL_ (some 9) rfl rfl Try.func64 zz4 rfl #[.agg #[.int .i64 a0_0, .int .i64 a0_1, .bool a0_2, .int .i64 a0_3]] rfl zz5 ?_; (with_reducible refine (gantletref05_Put.calls k a0_0 a0_1 a0_2 a0_3 t174 t175 _ A2.out).mono ?_); rintro e w19 ⟨rfl, hb⟩; refine ⟨_, rfl, ?_⟩; have n0_ := Aside0.mk (blk_below (g := gb173) (o := .cells #[.int .i64 a0_0, .int .i64 a0_1, .bool a0_2, .int .i64 a0_3] 39 (0, 0)) zz21 hb); have n1_ := Aside0.mk (below_step zz19 hb); clear BK173; clear HB; have BK173 := n0_; have HB := n1_; clear n0_ n1_; (try clear hb); (try clear hb2); (try clear hk); (try clear hi)))
  go_ret2
  exact ⟨zz3, zz19⟩
end Go.Proofs.Ytgddaddoabjgiaa.PA
namespace Go.Proofs.Ytgddaddoabjgiaa.BLen
open RowKit PA YtgddaddoabjgiaaW.PrintWords YtgddaddoabjgiaaW.PrintLast YtgddaddoabjgiaaW.PrintMore
open Idm Lenm BId
set_option linter.unusedVariables false
theorem rlput_loop : ∀ (d n : Nat) (k : Nat) (acc : List Int), n < 256 ^ d → d ≤ 8 → d < k → acc.length + d ≤ 20 → (lb0 n ++ acc).length ≤ 100 →
 gantletref06_Put.l0 k n acc = some (strOfNums ((128 + ((lb0 n ++ acc).length : Int)) :: (lb0 n ++ acc)), 0) := by
 intro d
 induction d with
 | zero =>
   intro n k acc hn _ hk hl hz
   obtain ⟨k, rfl⟩ : ∃ m, k = m + 1 := ⟨k - 1, zz7⟩
   obtain rfl : n = 0 := by simpa using hn
   simp only [gantletref06_Put.l0]
   have e : lb0 0 = [] := rfl
   rw [e] at hz ⊢
   simp at hz
   rw [if_neg zz43, List.nil_append, w64 zz7 zz7, Option.bind_some, if_pos (by rw [strOfNums_size, strOfNums_size]; simp; omega), strOf_append, show (128 + (acc.length : Int)) % 256 = 128 + acc.length by omega]
   rfl
 | succ d ih =>
   intro n k acc hn hd hk hl hz
   obtain ⟨k, rfl⟩ : ∃ m, k = m + 1 := ⟨k - 1, zz7⟩
   have hn8 : n < 256 ^ 8 := Nat.lt_of_lt_of_le hn (Nat.pow_le_pow_right zz7 hd)
   rcases Nat.eq_zero_or_pos n with h0 | h0
   ·
    subst h0
    simp only [gantletref06_Put.l0]
    have e : lb0 0 = [] := rfl
    rw [e] at hz ⊢
    simp at hz
    rw [if_neg zz43, List.nil_append, w64 zz7 zz7, Option.bind_some, if_pos (by rw [strOfNums_size, strOfNums_size]; simp; omega), strOf_append, show (128 + (acc.length : Int)) % 256 = 128 + acc.length by omega]
    rfl
   ·
    simp only [gantletref06_Put.l0]
    rw [if_pos zz7, Option.bind_some, if_pos zz73, Int.tdiv_eq_ediv_of_nonneg zz7, Int.tmod_eq_emod_of_nonneg zz7, w64 zz7 (by simp at hn8; omega)]
    have e1 : ((n : Int) / 256) = ((n / 256 : Nat) : Int) := by omega
    have e2 : (n : Int) % 256 % 256 = ((n % 256 : Nat) : Int) := by omega
    have e3 : lb0 n ++ acc = lb0 (n / 256) ++ ([((n % 256 : Nat) : Int)] ++ acc) := by rw [lb0_step n h0, List.append_assoc]
    rw [e3] at hz
    rw [e1, e2, e3]
    exact ih (n / 256) k _ (by rw [Nat.div_lt_iff_lt_mul zz7]; rw [Nat.pow_succ] at hn; exact hn) zz7 zz7 zz73 hz
theorem rlput_ok (k : Nat) (n : Int) (h0 : 0 ≤ n) (h1 : n ≤ MaxLen) (hk : 12 ≤ k) : gantletref06_Put.f k n = some (strOfNums (lenc n), 0) := by
 unfold MaxLen at h1
 obtain ⟨k, rfl⟩ : ∃ m, k = m + 1 := ⟨k - 1, zz7⟩
 unfold gantletref06_Put.f
 rw [if_neg zz7, show decide (n > 2305843009213693951) = false by simp; omega]
 simp only [gantletref06_Put.j0, Bool.false_eq_true, if_false]
 unfold lenc
 by_cases h : n < 128
 ·
  rw [if_pos h, if_pos h, show n % 256 = n by omega]
 ·
  rw [if_neg h, if_neg h]
  have hb : lb0 n.toNat = lb n.toNat := by unfold lb0; rw [if_neg zz7]
  have h8 := lb_len_le 7 n.toNat zz73
  have := rlput_loop 8 n.toNat k [] zz73 zz7 zz7 zz43 (by rw [hb]; simp; omega)
  rw [hb, List.append_nil, Int.toNat_of_nonneg h0] at this
  exact this
end Go.Proofs.Ytgddaddoabjgiaa.BLen
namespace Go.Proofs.Ytgddaddoabjgiaa.BHd
open RowKit PA YtgddaddoabjgiaaW.PrintWords YtgddaddoabjgiaaW.PrintLast YtgddaddoabjgiaaW.PrintMore
open Idm Lenm Hdm BId BLen RId
set_option linter.unusedVariables false
theorem rhput_ok (k : Nat) {c t n : Int} (cons : Bool) (h : Whole c t n) (hk : 20 ≤ k) : gantletref07_Put.f k c t cons n = some (strOfNums (hdenc c t cons n), 0) := by
 obtain ⟨m, rfl⟩ : ∃ m, k = m + 9 := ⟨k - 9, zz7⟩
 have hl := hdenc_len cons h
 unfold gantletref07_Put.f
 rw [rput_ok m cons n h.1, Option.bind_some]
 simp only [if_true]
 rw [rlput_ok (m + 9) n h.2.1 h.2.2 zz7, Option.bind_some]
 simp only [if_true]
 rw [if_pos (by rw [strOfNums_size, strOfNums_size]; omega), strOf_append]
 rfl
end Go.Proofs.Ytgddaddoabjgiaa.BHd
