/- What the row of ValueHeads stands on, made small by a program of this session (pack.py). -/
import Derived.Test.YtpfconocipmcjaaCValueHeads2
import Derived.Test.YtpfconocipmcjaaCValueHeads4
import Derived.Test.YtpfconocipmcjaaCValueHeads30
namespace Go.Proofs.Ytpfconocipmcjaa.PC
open RowKit YtpfconocipmcjaaW.PrintWords YtpfconocipmcjaaW.PrintLast YtpfconocipmcjaaW.PrintMore
attribute [local go_sem] max2_int min2_int max_two min_two max_three min_three max_four min_four
set_option linter.unusedVariables false
set_option linter.unusedSimpArgs false
mutual
def gantletref06_Put.j0 : Nat → Int → Bool → Option (ByteArray × Int)
 | 0, _, _ => none
 | k + 1, x0, x10 => if x10 = true then (some ((⟨#[]⟩ : ByteArray), 1)) else (if x0 < 128 then (some (strOfNums (([(x0) % 256] : List Int)), 0)) else (gantletref06_Put.l0 k x0 (([] : List Int))))
def gantletref06_Put.l0 : Nat → Int → List Int → Option (ByteArray × Int)
 | 0, _, _ => none
 | k + 1, x0, x4 => if x0 > 0 then ((some (([(Int.tmod x0 256) % 256] : List Int) : List Int)).bind fun y162 => (if y162.length + x4.length < 140737488355328 then (gantletref06_Put.l0 k (wrap64 (Int.tdiv x0 256)) (y162 ++ x4)) else (none))) else ((some (([(wrap64 (128 + (x4.length : Int))) % 256] : List Int) : List Int)).bind fun y168 => (if (strOfNums y168).size + (strOfNums x4).size ≤ 9223372036854775807 then (some ((strOfNums y168) ++ (strOfNums x4), 0)) else (none)))
end
def gantletref06_Put.f (k : Nat) (a0 : Int) : Option (ByteArray × Int) := if a0 < 0 then (gantletref06_Put.j0 k a0 true) else (gantletref06_Put.j0 k a0 (decide (a0 > 2305843009213693951)))
set_option maxHeartbeats 8000000 in
set_option maxRecDepth 100000 in
theorem gantletref06_Put.calls (k : Nat) (a0 : Int) (r1 : ByteArray) (r2 : Int) (w : World) (h : gantletref06_Put.f k a0 = some (r1, r2)) :
 Calls Try.prog 25 #[.int .i64 a0] w fun e w' => e = .returned (.tuple #[.string r1, .int .i64 r2]) ∧ Below w.heap.size w w' := by
 have HB := Aside0.mk (Below.refl w.heap.size w)
 have H : (if a0 < 0 then (gantletref06_Put.j0 k a0 true) else (gantletref06_Put.j0 k a0 (decide (a0 > 2305843009213693951)))) = some (r1, r2) := h
 clear h
 have HC2 := Aside0.mk H
 clear H
 go_enter Try.func25, Try.ntmps25
 go_upto_region 1 with (fail)
 go_cut [10] (fun v10 wc => ∃ (kq : Nat) (x10_1 : Bool), v10 = .bool x10_1 ∧ Aside0 (gantletref06_Put.j0 kq a0 x10_1 = some (r1, r2)) ∧ Aside0 (kq ≤ k) ∧ Aside0 (Below w.heap.size w wc))
 case first =>
  have H := HC2.out
  clear HC2
  by_cases c3 : a0 < 0
  ·
   rw [if_pos c3] at H
   have c3b0 : decide (a0 < 0) = true := decide_eq_true c3
   clear c3
   (first | rw [c3b0] | (simp only [i64_w, i32_w]; rw [c3b0]) | skip)
   have H' := Aside0.mk H
   clear H
   go_wp2
   go_meet
   case rel => exact ⟨_, (true), zz0, H', ⟨zz23⟩, ⟨zz1⟩⟩
  ·
   rw [if_neg c3] at H
   have c3b0 : decide (a0 < 0) = false := decide_eq_false c3
   clear c3
   (first | rw [c3b0] | (simp only [i64_w, i32_w]; rw [c3b0]) | skip)
   have H' := Aside0.mk H
   clear H
   go_wp2
   go_meet
   case rel => exact ⟨_, (decide (a0 > 2305843009213693951)), zz0, H', ⟨zz23⟩, ⟨zz1⟩⟩
 case rest =>
  clear HC2
  try clear c2
  try clear p2
  try clear c3
  try clear c3b0
  obtain ⟨kq, x10_1, rfl, HA, HJ1, HB⟩ := hcut
  cases kq with
  | zero => exact absurd HA.out (by simp [gantletref06_Put.j0])
  | succ kj1 =>
    have H := HA.out
    clear HA
    simp only [gantletref06_Put.j0] at H
    by_cases c4 : x10_1 = true
    ·
     subst c4
     rw [if_pos rfl] at H
     simp only [Option.some.injEq, Prod.mk.injEq] at H
     obtain ⟨rfl, rfl⟩ := H
     go_wp2
     go_ret2
     exact ⟨zz6, zz1⟩
    ·
     replace c4 := Bool.eq_false_iff.mpr c4
     subst c4
     rw [if_neg (show ¬ (false = true) by decide)] at H
     by_cases c5 : a0 < 128
     ·
      rw [if_pos c5] at H
      have c5b0 : decide (a0 < 128) = true := decide_eq_true c5
      clear c5
      obtain ⟨y156, hy156⟩ : ∃ y_ : List Int, y_ = (([(a0) % 256] : List Int)) := ⟨_, rfl⟩
      replace H : (some (strOfNums y156, 0)) = some (r1, r2) := by first | (rw [hy156]; with_reducible exact H) | (have H2_ := (Option.bind_some _ _).symm.trans H; rw [hy156]; with_reducible exact H2_) | (have H2_ := (Option.bind_some _ _).symm.trans H; with_reducible exact H2_) | with_reducible exact H | (rw [hy156]; exact H) | exact H
      have Ny156 := Aside0.mk hy156
      clear hy156
      simp only [Option.some.injEq, Prod.mk.injEq] at H
      obtain ⟨rfl, rfl⟩ := H
      go_wp2_with (first | ((with_reducible refine gate_dst (N := 15) rfl ?_); refine Kd.R_lit (Kd.int .u8) _ 5 ?hg (N := 15) ?hd (xs := ([(a0) % 256] : List Int)) (inner := [.int .u8 ((a0) % 256)]) (ok := fun _ => True) (okp := fun _ => True) ?hr ?hp (fun _ hk => hk) trivial (Below.refl _ _) (Nat.le_refl _) zz28 ?_; (case hd => rfl); (case hg => rfl); (case hr => first | (go_simp; done) | (go_simp; rfl)); (case hp => exact (Reps.one (show Kd.M (Kd.int .u8) _ _ _ ((a0) % 256) [.int .u8 ((a0) % 256)] from rfl) (Reps.none _ _))); intro v157 w6 ho7 hb hg_ hnew_; clear hg_ hnew_; (first | rw [← Ny156.out] at ho7 | (simp only [Int.reduceToNat] at ho7; rw [← Ny156.out] at ho7)); have n0_ := Aside0.mk (Kd.R_lower ho7 (below_size zz1)); have n1_ := Aside0.mk (below_step zz1 hb); clear HB; have HO158 := n0_; have HB := n1_; clear n0_ n1_; clear hb ho7; have hcv8 := own_string (P := Try.prog) Try.underlying52 Try.underlying5 Try.underlying9 (Kd.own_of_R HO158.out)))
      go_ret2
      exact ⟨zz6, zz1⟩
     ·
      rw [if_neg c5] at H
      have c5b0 : decide (a0 < 128) = false := decide_eq_false c5
      clear c5
      obtain ⟨y159, hy159⟩ : ∃ y_ : List Int, y_ = (([] : List Int)) := ⟨_, rfl⟩
      replace H : (gantletref06_Put.l0 kj1 a0 y159) = some (r1, r2) := by first | (rw [hy159]; with_reducible exact H) | (have H2_ := (Option.bind_some _ _).symm.trans H; rw [hy159]; with_reducible exact H2_) | (have H2_ := (Option.bind_some _ _).symm.trans H; with_reducible exact H2_) | with_reducible exact H | (rw [hy159]; exact H) | exact H
      have Ny159 := Aside0.mk hy159
      clear hy159
      have H' := Aside0.mk H
      clear H
      go_wp2_with (first | ((with_reducible refine gate_dst (N := 17) rfl ?_); refine Kd.R_lit (Kd.int .u8) _ 5 ?hg (N := 17) ?hd (xs := ([] : List Int)) (inner := []) (ok := fun _ => True) (okp := fun _ => True) ?hr ?hp (fun _ hk => hk) trivial (Below.refl _ _) (Nat.le_refl _) zz28 ?_; (case hd => rfl); (case hg => rfl); (case hr => first | (go_simp; done) | (go_simp; rfl)); (case hp => exact (Reps.none _ _)); intro v160 w9 ho10 hb hg_ hnew_; clear hg_ hnew_; (first | rw [← Ny159.out] at ho10 | (simp only [Int.reduceToNat] at ho10; rw [← Ny159.out] at ho10)); have n0_ := Aside0.mk (Kd.R_lower ho10 (below_size zz1)); have n1_ := Aside0.mk (below_step zz1 hb); clear HB; have HO161 := n0_; have HB := n1_; clear n0_ n1_; clear hb ho10))
      go_loopg [0, 4] kj1 (fun kq v0 v4 w' => ∃ (x0_2 : Int) (x4_2 : List Int), v0 = .int .i64 x0_2 ∧ Aside0 (gantletref06_Put.l0 kq x0_2 x4_2 = some (r1, r2)) ∧ Aside0 (kq ≤ kj1) ∧ Aside0 (Kd.R (Kd.int .u8) 5 w' w.heap.size (fun _ => True) v4 x4_2) ∧ Aside0 (Below w.heap.size w w'))
      case atStart => exact ⟨(a0), (y159), zz0, H', ⟨Nat.le_refl _⟩, ⟨by (with_reducible repeat (first | apply Kd.R_alloc | apply Kd.R_drewN | apply Kd.R_drew)); exact HO161.out⟩, ⟨zz1⟩⟩
      case round =>
       clear H'
       try clear c2
       try clear p2
       try clear c3
       try clear c3b0
       try clear c4
       try clear c5
       try clear c5b0
       try clear hcv8
       try clear p2
       obtain ⟨x0_2, x4_2, rfl, HA, HK2, HO_4, HB⟩ := hrel
       cases gk with
       | zero => exact absurd HA.out (by simp [gantletref06_Put.l0])
       | succ k2 =>
         have H := HA.out
         clear HA
         simp only [gantletref06_Put.l0] at H
         by_cases c11 : x0_2 > 0
         ·
          rw [if_pos c11] at H
          have c11b0 : decide (0 < x0_2) = true := decide_eq_true c11
          clear c11
          obtain ⟨y162, hy162⟩ : ∃ y_ : List Int, y_ = (([(Int.tmod x0_2 256) % 256] : List Int)) := ⟨_, rfl⟩
          replace H : (if y162.length + x4_2.length < 140737488355328 then (gantletref06_Put.l0 k2 (wrap64 (Int.tdiv x0_2 256)) (y162 ++ x4_2)) else (none)) = some (r1, r2) := by first | (rw [hy162]; with_reducible exact H) | (have H2_ := (Option.bind_some _ _).symm.trans H; rw [hy162]; with_reducible exact H2_) | (have H2_ := (Option.bind_some _ _).symm.trans H; with_reducible exact H2_) | with_reducible exact H | (rw [hy162]; exact H) | exact H
          have Ny162 := Aside0.mk hy162
          clear hy162
          by_cases c12 : y162.length + x4_2.length < 140737488355328
          ·
           rw [if_pos c12] at H
           have LMc12 := Aside0.mk c12
           clear c12
           obtain ⟨y165, hy165⟩ : ∃ y_ : List Int, y_ = (y162 ++ x4_2) := ⟨_, rfl⟩
           replace H : (gantletref06_Put.l0 k2 (wrap64 (Int.tdiv x0_2 256)) y165) = some (r1, r2) := by first | (rw [hy165]; with_reducible exact H) | (have H2_ := (Option.bind_some _ _).symm.trans H; rw [hy165]; with_reducible exact H2_) | (have H2_ := (Option.bind_some _ _).symm.trans H; with_reducible exact H2_) | with_reducible exact H | (rw [hy165]; exact H) | exact H
           have Ny165 := Aside0.mk hy165
           clear hy165
           have H' := Aside0.mk H
           clear H
           go_wp2_with (first | ((with_reducible refine gate_dst (N := 23) rfl ?_); refine Kd.R_lit (Kd.int .u8) _ 5 ?hg (N := 23) ?hd (xs := ([(Int.tmod x0_2 256) % 256] : List Int)) (inner := [.int .u8 ((Int.tmod x0_2 256) % 256)]) (ok := fun _ => True) (okp := fun _ => True) ?hr ?hp (fun _ hk => hk) trivial (Below.refl _ _) (Nat.le_refl _) zz28 ?_; (case hd => rfl); (case hg => rfl); (case hr => first | (go_simp; done) | (go_simp; rfl)); (case hp => exact (Reps.one (show Kd.M (Kd.int .u8) _ _ _ ((Int.tmod x0_2 256) % 256) [.int .u8 ((Int.tmod x0_2 256) % 256)] from rfl) (Reps.none _ _))); intro v163 w13 ho14 hb hg_ hnew_; clear hg_ hnew_; (first | rw [← Ny162.out] at ho14 | (simp only [Int.reduceToNat] at ho14; rw [← Ny162.out] at ho14)); have n0_ := Aside0.mk (Kd.R_elder' zz43 (Kd.R_base ho14) hb); have n1_ := Aside0.mk (Kd.R_lower (Kd.R_new' ho14 (Kd.R_lt zz43)) (below_size zz1)); have n2_ := Aside0.mk (below_step zz1 hb); clear HO_4; clear HB; have HO_4 := n0_; have HO164 := n1_; have HB := n2_; clear n0_ n1_ n2_; clear hb ho14; obtain ⟨Ao16, co16, eo16⟩ := Kd.R_slice HO_4.out; subst eo16) | ((with_reducible refine gate_builtin (b := .append) (xs := #[.tmp 23, .tmp 24]) rfl ?_); at_builtin; refine Kd.R_append_rows (Kd.int .u8) (w0 := w) w.heap.size rfl (.tmp 23) (.tmp 24) 52 5 (.int .u8 0) 1 rfl Try.underlying52 info5 rfl zz14 zz5 v163 y162 x4_2 _ _ _ (fun k_ => some k_ ≠ (.slice Ao16 x4_2.length co16 : Value).ownBlock) (fun _ => False) rfl rfl ?aO ?aR (fun _ _ h => h) (fun _ h => h.elim) ?aF ?aB ?aS ?aL ?_; (case aR => repeat (first | exact (Kd.R_reads' HO_4.out).2.2 | (with_reducible refine Kd.C_alloc ?_ _) | (with_reducible refine Kd.C_drewN ?_ _) | (with_reducible refine Kd.C_drew ?_))); (case aB => exact zz1); (case aF => exact (fun k_ hk => Kd.fresh' (Kd.R_lt zz43) k_ hk)); (case aO => exact (by (with_reducible repeat (first | apply Kd.R_alloc | apply Kd.R_drewN | apply Kd.R_drew)); exact Kd.R_mono HO164.out (fun _ hk => hk.2))); (case aS => exact (below_size zz1)); (case aL => have := LMc12.out; omega); intro v166 w15 ho hb hg hat; rw [← Ny165.out] at ho; have n0_ := Aside0.mk (Kd.R_after (ok := (fun _ => True)) zz43 hg hat); have n1_ := Aside0.mk (hb); have n2_ := Aside0.mk (ho); clear HO_4; clear HB; clear HO164; have HO_4 := n0_; have HB := n1_; have HO167 := n2_; clear n0_ n1_ n2_; clear ho hb hg hat))
           go_roundg k2
           case measure => have := HJ1.out; have := HK2.out; omega
           case rel => exact ⟨(wrap64 (Int.tdiv x0_2 256)), (y165), zz0, H', ⟨by have := HJ1.out; have := HK2.out; omega⟩, ⟨by (with_reducible repeat (first | apply Kd.R_alloc | apply Kd.R_drewN | apply Kd.R_drew)); exact Kd.R_mono HO167.out (fun _ hk => trivial)⟩, ⟨zz1⟩⟩
          ·
           rw [if_neg c12] at H
           exact absurd H zz28
         ·
          rw [if_neg c11] at H
          have c11b0 : decide (0 < x0_2) = false := decide_eq_false c11
          clear c11
          obtain ⟨y168, hy168⟩ : ∃ y_ : List Int, y_ = (([(wrap64 (128 + (x4_2.length : Int))) % 256] : List Int)) := ⟨_, rfl⟩
          replace H : (if (strOfNums y168).size + (strOfNums x4_2).size ≤ 9223372036854775807 then (some ((strOfNums y168) ++ (strOfNums x4_2), 0)) else (none)) = some (r1, r2) := by first | (rw [hy168]; with_reducible exact H) | (have H2_ := (Option.bind_some _ _).symm.trans H; rw [hy168]; with_reducible exact H2_) | (have H2_ := (Option.bind_some _ _).symm.trans H; with_reducible exact H2_) | with_reducible exact H | (rw [hy168]; exact H) | exact H
          have Ny168 := Aside0.mk hy168
          clear hy168
          by_cases c17 : (strOfNums y168).size + (strOfNums x4_2).size ≤ 9223372036854775807
          ·
           rw [if_pos c17] at H
           have c17b0 := eq_true c17
           have c17b1 : decide ((strOfNums y168).size + (strOfNums x4_2).size ≤ 9223372036854775807) = true := decide_eq_true c17
           try have c17b2 : (9223372036854775807 < (strOfNums y168).size + (strOfNums x4_2).size) = False := eq_false (Nat.not_lt.2 c17)
           simp only [Option.some.injEq, Prod.mk.injEq] at H
           obtain ⟨rfl, rfl⟩ := H
           obtain ⟨Ao18, co18, eo18⟩ := Kd.R_slice HO_4.out
           subst eo18
           go_wp2_with (first | ((with_reducible refine gate_dst (N := 32) rfl ?_); refine Kd.R_lit (Kd.int .u8) _ 5 ?hg (N := 32) ?hd (xs := ([(wrap64 (128 + (x4_2.length : Int))) % 256] : List Int)) (inner := [.int .u8 ((wrap64 (128 + (x4_2.length : Int))) % 256)]) (ok := fun _ => True) (okp := fun _ => True) ?hr ?hp (fun _ hk => hk) trivial (Below.refl _ _) (Nat.le_refl _) zz28 ?_; (case hd => rfl); (case hg => rfl); (case hr => first | (go_simp; done) | (go_simp; rfl)); (case hp => exact (Reps.one (show Kd.M (Kd.int .u8) _ _ _ ((wrap64 (128 + (x4_2.length : Int))) % 256) [.int .u8 ((wrap64 (128 + (x4_2.length : Int))) % 256)] from rfl) (Reps.none _ _))); intro v169 w19 ho20 hb hg_ hnew_; clear hg_ hnew_; (first | rw [← Ny168.out] at ho20 | (simp only [Int.reduceToNat] at ho20; rw [← Ny168.out] at ho20)); have n0_ := Aside0.mk (Kd.R_elder' zz43 (Kd.R_base ho20) hb); have n1_ := Aside0.mk (Kd.R_lower (Kd.R_new' ho20 (Kd.R_lt zz43)) (below_size zz1)); have n2_ := Aside0.mk (below_step zz1 hb); clear HO_4; clear HB; have HO_4 := n0_; have HO170 := n1_; have HB := n2_; clear n0_ n1_ n2_; clear hb ho20; have hcv21 := own_string (P := Try.prog) Try.underlying52 Try.underlying5 Try.underlying9 (Kd.own_of_R HO170.out); have hcv22 := own_string (P := Try.prog) Try.underlying52 Try.underlying5 Try.underlying9 (Kd.own_of_R HO_4.out)))
           go_ret2
           exact ⟨zz6, zz1⟩
          ·
           rw [if_neg c17] at H
           exact absurd H zz28
def gantletref07_Put.f (k : Nat) (a0_0 : Int) (a0_1 : Int) (a0_2 : Bool) (a0_3 : Int) : Option (ByteArray × Int) := (gantletref05_Put.f k a0_0 a0_1 a0_2 a0_3).bind fun bt172 => (if bt172.2 = 0 then ((gantletref06_Put.f k a0_3).bind fun bt174 => (if bt174.2 = 0 then (if bt172.1.size + bt174.1.size ≤ 9223372036854775807 then (some (bt172.1 ++ bt174.1, 0)) else (none)) else (some ((⟨#[]⟩ : ByteArray), bt174.2)))) else (some ((⟨#[]⟩ : ByteArray), bt172.2)))
set_option maxHeartbeats 8000000 in
set_option maxRecDepth 100000 in
theorem gantletref07_Put.calls (k : Nat) (a0_0 : Int) (a0_1 : Int) (a0_2 : Bool) (a0_3 : Int) (r1 : ByteArray) (r2 : Int) (w : World) (h : gantletref07_Put.f k a0_0 a0_1 a0_2 a0_3 = some (r1, r2)) :
 Calls Try.prog 16 #[.agg #[.int .i64 a0_0, .int .i64 a0_1, .bool a0_2, .int .i64 a0_3]] w fun e w' => e = .returned (.tuple #[.string r1, .int .i64 r2]) ∧ Below w.heap.size w w' := by
 have hu37 := Try.underlying37
 have HB := Aside0.mk (Below.refl w.heap.size w)
 have H : ((gantletref05_Put.f k a0_0 a0_1 a0_2 a0_3).bind fun bt172 => (if bt172.2 = 0 then ((gantletref06_Put.f k a0_3).bind fun bt174 => (if bt174.2 = 0 then (if bt172.1.size + bt174.1.size ≤ 9223372036854775807 then (some (bt172.1 ++ bt174.1, 0)) else (none)) else (some ((⟨#[]⟩ : ByteArray), bt174.2)))) else (some ((⟨#[]⟩ : ByteArray), bt172.2)))) = some (r1, r2) := h
 clear h
 replace H := Option.bind_eq_some_iff.mp H
 obtain ⟨⟨t172, t173⟩, A20, H⟩ := H
 replace H : (if t173 = 0 then ((gantletref06_Put.f k a0_3).bind fun bt174 => (if bt174.2 = 0 then (if t172.size + bt174.1.size ≤ 9223372036854775807 then (some (t172 ++ bt174.1, 0)) else (none)) else (some ((⟨#[]⟩ : ByteArray), bt174.2)))) else (some ((⟨#[]⟩ : ByteArray), t173))) = some (r1, r2) := H
 have A2 := Aside0.mk A20
 clear A20
 by_cases c3 : t173 = 0
 ·
  rw [if_pos c3] at H
  have c3b0 : (t173 == 0) = true := beq_iff_eq.mpr c3
  have c3b1 : (t173 != 0) = false := bne_eq_false_iff_eq.mpr c3
  clear c3
  replace H := Option.bind_eq_some_iff.mp H
  obtain ⟨⟨t174, t175⟩, A40, H⟩ := H
  replace H : (if t175 = 0 then (if t172.size + t174.size ≤ 9223372036854775807 then (some (t172 ++ t174, 0)) else (none)) else (some ((⟨#[]⟩ : ByteArray), t175))) = some (r1, r2) := H
  have A4 := Aside0.mk A40
  clear A40
  by_cases c5 : t175 = 0
  ·
   rw [if_pos c5] at H
   have c5b0 : (t175 == 0) = true := beq_iff_eq.mpr c5
   have c5b1 : (t175 != 0) = false := bne_eq_false_iff_eq.mpr c5
   clear c5
   by_cases c6 : t172.size + t174.size ≤ 9223372036854775807
   ·
    rw [if_pos c6] at H
    have c6b0 := eq_true c6
    have c6b1 : decide (t172.size + t174.size ≤ 9223372036854775807) = true := decide_eq_true c6
    try have c6b2 : (9223372036854775807 < t172.size + t174.size) = False := eq_false (Nat.not_lt.2 c6)
    simp only [Option.some.injEq, Prod.mk.injEq] at H
    obtain ⟨rfl, rfl⟩ := H
    go_enter Try.func16, Try.ntmps16
    go_wp2_with (first | ((with_reducible refine gate_dst (N := 1) rfl ?_); refine zzbx (N := 1) (cs := #[.int .i64 a0_0, .int .i64 a0_1, .bool a0_2, .int .i64 a0_3]) (t := 37) ?_; intro gb171 hg w7 hbox hb; have n0_ := Aside0.mk (below_step zz1 hb); have n1_ := Aside0.mk (hbox); have n2_ := Aside0.mk ((zz42 : w.heap.size ≤ gb171)); have n3_ := n2_; clear HB; have HB := n0_; have BK171 := n1_; have GW171 := n2_; have GE171 := n3_; clear n0_ n1_ n2_ n3_; clear hb hbox hg; have hcz8_0 : w7.cell? ⟨gb171, 0, none⟩ = some (.int .i64 a0_0) := (blk_cell BK171.out 0).trans rfl; have hcz8_1 : w7.cell? ⟨gb171, 1, none⟩ = some (.int .i64 a0_1) := (blk_cell BK171.out 1).trans rfl; have hcz8_2 : w7.cell? ⟨gb171, 2, none⟩ = some (.bool a0_2) := (blk_cell BK171.out 2).trans rfl; have hcz8_3 : w7.cell? ⟨gb171, 3, none⟩ = some (.int .i64 a0_3) := (blk_cell BK171.out 3).trans rfl; have hfz8_0 := blk_frozen BK171.out 0; have hfz8_1 := blk_frozen BK171.out 1; have hfz8_2 := blk_frozen BK171.out 2; have hfz8_3 := blk_frozen BK171.out 3) | ((with_reducible refine gate_callee (f := 24) rfl ?_); refine goesL_ (some 9) rfl rfl Try.func24 zz13 rfl #[.agg #[.int .i64 a0_0, .int .i64 a0_1, .bool a0_2, .int .i64 a0_3]] rfl zz4 ?_; (with_reducible refine (gantletref05_Put.calls k a0_0 a0_1 a0_2 a0_3 t172 t173 _ A2.out).mono ?_); rintro e w9 ⟨rfl, hb⟩; refine ⟨_, rfl, ?_⟩; have n0_ := Aside0.mk (blk_below (g := gb171) (o := .cells #[.int .i64 a0_0, .int .i64 a0_1, .bool a0_2, .int .i64 a0_3] 37 (0, 0)) zz50 hb); have n1_ := Aside0.mk (below_step zz33 hb); clear BK171; clear HB; have BK171 := n0_; have HB := n1_; clear n0_ n1_; (try clear hb); (try clear hb2); (try clear hk); (try clear hi); have hcz10_0 : w9.cell? ⟨gb171, 0, none⟩ = some (.int .i64 a0_0) := (blk_cell BK171.out 0).trans rfl; have hcz10_1 : w9.cell? ⟨gb171, 1, none⟩ = some (.int .i64 a0_1) := (blk_cell BK171.out 1).trans rfl; have hcz10_2 : w9.cell? ⟨gb171, 2, none⟩ = some (.bool a0_2) := (blk_cell BK171.out 2).trans rfl; have hcz10_3 : w9.cell? ⟨gb171, 3, none⟩ = some (.int .i64 a0_3) := (blk_cell BK171.out 3).trans rfl; have hfz10_0 := blk_frozen BK171.out 0; have hfz10_1 := blk_frozen BK171.out 1; have hfz10_2 := blk_frozen BK171.out 2; have hfz10_3 := blk_frozen BK171.out 3) | ((with_reducible refine gate_callee (f := 25) rfl ?_); refine goesL_ (some 18) rfl rfl Try.func25 zz13 rfl #[.int .i64 a0_3] rfl zz4 ?_; (with_reducible refine (gantletref06_Put.calls k a0_3 t174 t175 _ A4.out).mono ?_); rintro e w11 ⟨rfl, hb⟩; refine ⟨_, rfl, ?_⟩; have n0_ := Aside0.mk (blk_below (g := gb171) (o := .cells #[.int .i64 a0_0, .int .i64 a0_1, .bool a0_2, .int .i64 a0_3] 37 (0, 0)) zz50 hb); have n1_ := Aside0.mk (below_step zz33 hb); clear BK171; clear HB; have BK171 := n0_; have HB := n1_; clear n0_ n1_; (try clear hb); (try clear hb2); (try clear hk); (try clear hi)))
    go_ret2
    exact ⟨zz6, zz33⟩
   ·
    rw [if_neg c6] at H
    exact absurd H zz28
  ·
   rw [if_neg c5] at H
   have c5b0 : (t175 == 0) = false := beq_eq_false_iff_ne.mpr c5
   have c5b1 : (t175 != 0) = true := bne_iff_ne.mpr c5
   simp only [Option.some.injEq, Prod.mk.injEq] at H
   obtain ⟨rfl, rfl⟩ := H
   go_enter Try.func16, Try.ntmps16
   go_wp2_with (first | ((with_reducible refine gate_dst (N := 1) rfl ?_); refine zzbx (N := 1) (cs := #[.int .i64 a0_0, .int .i64 a0_1, .bool a0_2, .int .i64 a0_3]) (t := 37) ?_; intro gb171 hg w12 hbox hb; have n0_ := Aside0.mk (below_step zz1 hb); have n1_ := Aside0.mk (hbox); have n2_ := Aside0.mk ((zz42 : w.heap.size ≤ gb171)); have n3_ := n2_; clear HB; have HB := n0_; have BK171 := n1_; have GW171 := n2_; have GE171 := n3_; clear n0_ n1_ n2_ n3_; clear hb hbox hg; have hcz13_0 : w12.cell? ⟨gb171, 0, none⟩ = some (.int .i64 a0_0) := (blk_cell BK171.out 0).trans rfl; have hcz13_1 : w12.cell? ⟨gb171, 1, none⟩ = some (.int .i64 a0_1) := (blk_cell BK171.out 1).trans rfl; have hcz13_2 : w12.cell? ⟨gb171, 2, none⟩ = some (.bool a0_2) := (blk_cell BK171.out 2).trans rfl; have hcz13_3 : w12.cell? ⟨gb171, 3, none⟩ = some (.int .i64 a0_3) := (blk_cell BK171.out 3).trans rfl; have hfz13_0 := blk_frozen BK171.out 0; have hfz13_1 := blk_frozen BK171.out 1; have hfz13_2 := blk_frozen BK171.out 2; have hfz13_3 := blk_frozen BK171.out 3) | ((with_reducible refine gate_callee (f := 24) rfl ?_); refine goesL_ (some 9) rfl rfl Try.func24 zz13 rfl #[.agg #[.int .i64 a0_0, .int .i64 a0_1, .bool a0_2, .int .i64 a0_3]] rfl zz4 ?_; (with_reducible refine (gantletref05_Put.calls k a0_0 a0_1 a0_2 a0_3 t172 t173 _ A2.out).mono ?_); rintro e w14 ⟨rfl, hb⟩; refine ⟨_, rfl, ?_⟩; have n0_ := Aside0.mk (blk_below (g := gb171) (o := .cells #[.int .i64 a0_0, .int .i64 a0_1, .bool a0_2, .int .i64 a0_3] 37 (0, 0)) zz50 hb); have n1_ := Aside0.mk (below_step zz33 hb); clear BK171; clear HB; have BK171 := n0_; have HB := n1_; clear n0_ n1_; (try clear hb); (try clear hb2); (try clear hk); (try clear hi); have hcz15_0 : w14.cell? ⟨gb171, 0, none⟩ = some (.int .i64 a0_0) := (blk_cell BK171.out 0).trans rfl; have hcz15_1 : w14.cell? ⟨gb171, 1, none⟩ = some (.int .i64 a0_1) := (blk_cell BK171.out 1).trans rfl; have hcz15_2 : w14.cell? ⟨gb171, 2, none⟩ = some (.bool a0_2) := (blk_cell BK171.out 2).trans rfl; have hcz15_3 : w14.cell? ⟨gb171, 3, none⟩ = some (.int .i64 a0_3) := (blk_cell BK171.out 3).trans rfl; have hfz15_0 := blk_frozen BK171.out 0; have hfz15_1 := blk_frozen BK171.out 1; have hfz15_2 := blk_frozen BK171.out 2; have hfz15_3 := blk_frozen BK171.out 3) | ((with_reducible refine gate_callee (f := 25) rfl ?_); refine goesL_ (some 18) rfl rfl Try.func25 zz13 rfl #[.int .i64 a0_3] rfl zz4 ?_; (with_reducible refine (gantletref06_Put.calls k a0_3 t174 t175 _ A4.out).mono ?_); rintro e w16 ⟨rfl, hb⟩; refine ⟨_, rfl, ?_⟩; have n0_ := Aside0.mk (blk_below (g := gb171) (o := .cells #[.int .i64 a0_0, .int .i64 a0_1, .bool a0_2, .int .i64 a0_3] 37 (0, 0)) zz50 hb); have n1_ := Aside0.mk (below_step zz33 hb); clear BK171; clear HB; have BK171 := n0_; have HB := n1_; clear n0_ n1_; (try clear hb); (try clear hb2); (try clear hk); (try clear hi)))
   go_ret2
   exact ⟨zz6, zz33⟩
 ·
  rw [if_neg c3] at H
  have c3b0 : (t173 == 0) = false := beq_eq_false_iff_ne.mpr c3
  have c3b1 : (t173 != 0) = true := bne_iff_ne.mpr c3
  simp only [Option.some.injEq, Prod.mk.injEq] at H
  obtain ⟨rfl, rfl⟩ := H
  go_enter Try.func16, Try.ntmps16
  go_wp2_with (first | ((with_reducible refine gate_dst (N := 1) rfl ?_); refine zzbx (N := 1) (cs := #[.int .i64 a0_0, .int .i64 a0_1, .bool a0_2, .int .i64 a0_3]) (t := 37) ?_; intro gb171 hg w17 hbox hb; have n0_ := Aside0.mk (below_step zz1 hb); have n1_ := Aside0.mk (hbox); have n2_ := Aside0.mk ((zz42 : w.heap.size ≤ gb171)); have n3_ := n2_; clear HB; have HB := n0_; have BK171 := n1_; have GW171 := n2_; have GE171 := n3_; clear n0_ n1_ n2_ n3_; clear hb hbox hg; have hcz18_0 : w17.cell? ⟨gb171, 0, none⟩ = some (.int .i64 a0_0) := (blk_cell BK171.out 0).trans rfl; have hcz18_1 : w17.cell? ⟨gb171, 1, none⟩ = some (.int .i64 a0_1) := (blk_cell BK171.out 1).trans rfl; have hcz18_2 : w17.cell? ⟨gb171, 2, none⟩ = some (.bool a0_2) := (blk_cell BK171.out 2).trans rfl; have hcz18_3 : w17.cell? ⟨gb171, 3, none⟩ = some (.int .i64 a0_3) := (blk_cell BK171.out 3).trans rfl; have hfz18_0 := blk_frozen BK171.out 0; have hfz18_1 := blk_frozen BK171.out 1; have hfz18_2 := blk_frozen BK171.out 2; have hfz18_3 := blk_frozen BK171.out 3) | ((with_reducible refine gate_callee (f := 24) rfl ?_); refine goesL_ (some 9) rfl rfl Try.func24 zz13 rfl #[.agg #[.int .i64 a0_0, .int .i64 a0_1, .bool a0_2, .int .i64 a0_3]] rfl zz4 ?_; (with_reducible refine (gantletref05_Put.calls k a0_0 a0_1 a0_2 a0_3 t172 t173 _ A2.out).mono ?_); rintro e w19 ⟨rfl, hb⟩; refine ⟨_, rfl, ?_⟩; have n0_ := Aside0.mk (blk_below (g := gb171) (o := .cells #[.int .i64 a0_0, .int .i64 a0_1, .bool a0_2, .int .i64 a0_3] 37 (0, 0)) zz50 hb); have n1_ := Aside0.mk (below_step zz33 hb); clear BK171; clear HB; have BK171 := n0_; have HB := n1_; clear n0_ n1_; (try clear hb); (try clear hb2); (try clear hk); (try clear hi)))
  go_ret2
  exact ⟨zz6, zz33⟩
end Go.Proofs.Ytpfconocipmcjaa.PC
namespace Go.Proofs.Ytpfconocipmcjaa.PC
open RowKit YtpfconocipmcjaaW.PrintWords YtpfconocipmcjaaW.PrintLast YtpfconocipmcjaaW.PrintMore
attribute [local go_sem] max2_int min2_int max_two min_two max_three min_three max_four min_four
set_option linter.unusedVariables false
set_option linter.unusedSimpArgs false
end Go.Proofs.Ytpfconocipmcjaa.PC
