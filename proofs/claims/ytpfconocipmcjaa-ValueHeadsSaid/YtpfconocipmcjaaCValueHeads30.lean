/- What the row of ValueHeads stands on, made small by a program of this session (pack.py). -/
import Derived.Test.YtpfconocipmcjaaCValueHeads2
import Derived.Test.YtpfconocipmcjaaCValueHeads4
namespace Go.Proofs.Ytpfconocipmcjaa.PC
open RowKit YtpfconocipmcjaaW.PrintWords YtpfconocipmcjaaW.PrintLast YtpfconocipmcjaaW.PrintMore
attribute [local go_sem] max2_int min2_int max_two min_two max_three min_three max_four min_four
set_option linter.unusedVariables false
set_option linter.unusedSimpArgs false
def gantletref05_groups.l0 : Nat → Int → List Int → Option (List Int)
 | 0, _, _ => none
 | k + 1, x0, x3 => if x0 > 127 then ((some (([Int.tmod (wrap64 (Int.tdiv x0 128)) 128] : List Int) : List Int)).bind fun y132 => (if y132.length + x3.length < 17592186044416 then (gantletref05_groups.l0 k (wrap64 (Int.tdiv x0 128)) (y132 ++ x3)) else (none))) else (some x3)
def gantletref05_groups.f (k : Nat) (a0 : Int) : Option (List Int) := gantletref05_groups.l0 k a0 (([Int.tmod a0 128] : List Int))
set_option maxHeartbeats 8000000 in
set_option maxRecDepth 100000 in
theorem gantletref05_groups.calls (k : Nat) (a0 : Int) (r : List Int) (w : World) (h : gantletref05_groups.f k a0 = some r) :
 Calls Try.prog 40 #[.int .i64 a0] w fun e w' => ∃ v0_ : Value, e = .returned (v0_) ∧ Kd.R (Kd.int .i64) 3 w' w.heap.size (fun _ => True) v0_ r ∧ Below w.heap.size w w' := by
 have HB := Aside0.mk (Below.refl w.heap.size w)
 have H : (gantletref05_groups.l0 k a0 (([Int.tmod a0 128] : List Int))) = some r := h
 clear h
 obtain ⟨y129, hy129⟩ : ∃ y_ : List Int, y_ = (([Int.tmod a0 128] : List Int)) := ⟨_, rfl⟩
 replace H : (gantletref05_groups.l0 k a0 y129) = some r := by first | (rw [hy129]; with_reducible exact H) | (have H2_ := (Option.bind_some _ _).symm.trans H; rw [hy129]; with_reducible exact H2_) | (have H2_ := (Option.bind_some _ _).symm.trans H; with_reducible exact H2_) | with_reducible exact H | (rw [hy129]; exact H) | exact H
 have Ny129 := Aside0.mk hy129
 clear hy129
 have H' := Aside0.mk H
 clear H
 go_enter Try.func40, Try.ntmps40
 go_wp2_with (first | ((with_reducible refine gate_dst (N := 6) rfl ?_); refine Kd.R_lit (Kd.int .i64) _ 3 ?hg (N := 6) ?hd (xs := ([Int.tmod a0 128] : List Int)) (inner := [.int .i64 (Int.tmod a0 128)]) (ok := fun _ => True) (okp := fun _ => True) ?hr ?hp (fun _ hk => hk) trivial (Below.refl _ _) (Nat.le_refl _) zz28 ?_; (case hd => rfl); (case hg => rfl); (case hr => first | (go_simp; done) | (go_simp; rfl)); (case hp => exact (Reps.one (show Kd.M (Kd.int .i64) _ _ _ (Int.tmod a0 128) [.int .i64 (Int.tmod a0 128)] from rfl) (Reps.none _ _))); intro v130 w2 ho3 hb hg_ hnew_; clear hg_ hnew_; (first | rw [← Ny129.out] at ho3 | (simp only [Int.reduceToNat] at ho3; rw [← Ny129.out] at ho3)); have n0_ := Aside0.mk (Kd.R_lower ho3 (below_size zz1)); have n1_ := Aside0.mk (below_step zz1 hb); clear HB; have HO131 := n0_; have HB := n1_; clear n0_ n1_; clear hb ho3))
 go_loopg [0, 3] k (fun kq v0 v3 w' => ∃ (x0_1 : Int) (x3_1 : List Int), v0 = .int .i64 x0_1 ∧ Aside0 (gantletref05_groups.l0 kq x0_1 x3_1 = some r) ∧ Aside0 (kq ≤ k) ∧ Aside0 (Kd.R (Kd.int .i64) 3 w' w.heap.size (fun _ => True) v3 x3_1) ∧ Aside0 (Below w.heap.size w w'))
 case atStart => exact ⟨(a0), (y129), zz0, H', ⟨Nat.le_refl _⟩, ⟨by (with_reducible repeat (first | apply Kd.R_alloc | apply Kd.R_drewN | apply Kd.R_drew)); exact HO131.out⟩, ⟨zz1⟩⟩
 case round =>
  clear H'
  try clear p2
  obtain ⟨x0_1, x3_1, rfl, HA, HK1, HO_3, HB⟩ := hrel
  cases gk with
  | zero => exact absurd HA.out (by simp [gantletref05_groups.l0])
  | succ k1 =>
    have H := HA.out
    clear HA
    simp only [gantletref05_groups.l0] at H
    by_cases c4 : x0_1 > 127
    ·
     rw [if_pos c4] at H
     have c4b0 : decide (127 < x0_1) = true := decide_eq_true c4
     clear c4
     obtain ⟨y132, hy132⟩ : ∃ y_ : List Int, y_ = (([Int.tmod (wrap64 (Int.tdiv x0_1 128)) 128] : List Int)) := ⟨_, rfl⟩
     replace H : (if y132.length + x3_1.length < 17592186044416 then (gantletref05_groups.l0 k1 (wrap64 (Int.tdiv x0_1 128)) (y132 ++ x3_1)) else (none)) = some r := by first | (rw [hy132]; with_reducible exact H) | (have H2_ := (Option.bind_some _ _).symm.trans H; rw [hy132]; with_reducible exact H2_) | (have H2_ := (Option.bind_some _ _).symm.trans H; with_reducible exact H2_) | with_reducible exact H | (rw [hy132]; exact H) | exact H
     have Ny132 := Aside0.mk hy132
     clear hy132
     by_cases c5 : y132.length + x3_1.length < 17592186044416
     ·
      rw [if_pos c5] at H
      have LMc5 := Aside0.mk c5
      clear c5
      obtain ⟨y135, hy135⟩ : ∃ y_ : List Int, y_ = (y132 ++ x3_1) := ⟨_, rfl⟩
      replace H : (gantletref05_groups.l0 k1 (wrap64 (Int.tdiv x0_1 128)) y135) = some r := by first | (rw [hy135]; with_reducible exact H) | (have H2_ := (Option.bind_some _ _).symm.trans H; rw [hy135]; with_reducible exact H2_) | (have H2_ := (Option.bind_some _ _).symm.trans H; with_reducible exact H2_) | with_reducible exact H | (rw [hy135]; exact H) | exact H
      have Ny135 := Aside0.mk hy135
      clear hy135
      have H' := Aside0.mk H
      clear H
      go_wp2_with (first | ((with_reducible refine gate_dst (N := 13) rfl ?_); refine Kd.R_lit (Kd.int .i64) _ 3 ?hg (N := 13) ?hd (xs := ([Int.tmod (wrap64 (Int.tdiv x0_1 128)) 128] : List Int)) (inner := [.int .i64 (Int.tmod (wrap64 (Int.tdiv x0_1 128)) 128)]) (ok := fun _ => True) (okp := fun _ => True) ?hr ?hp (fun _ hk => hk) trivial (Below.refl _ _) (Nat.le_refl _) zz28 ?_; (case hd => rfl); (case hg => rfl); (case hr => first | (go_simp; done) | (go_simp; rfl)); (case hp => exact (Reps.one (show Kd.M (Kd.int .i64) _ _ _ (Int.tmod (wrap64 (Int.tdiv x0_1 128)) 128) [.int .i64 (Int.tmod (wrap64 (Int.tdiv x0_1 128)) 128)] from rfl) (Reps.none _ _))); intro v133 w6 ho7 hb hg_ hnew_; clear hg_ hnew_; (first | rw [← Ny132.out] at ho7 | (simp only [Int.reduceToNat] at ho7; rw [← Ny132.out] at ho7)); have n0_ := Aside0.mk (Kd.R_elder' zz52 (Kd.R_base ho7) hb); have n1_ := Aside0.mk (Kd.R_lower (Kd.R_new' ho7 (Kd.R_lt zz52)) (below_size zz1)); have n2_ := Aside0.mk (below_step zz1 hb); clear HO_3; clear HB; have HO_3 := n0_; have HO134 := n1_; have HB := n2_; clear n0_ n1_ n2_; clear hb ho7; obtain ⟨Ao9, co9, eo9⟩ := Kd.R_slice HO_3.out; subst eo9) | ((with_reducible refine gate_builtin (b := .append) (xs := #[.tmp 13, .tmp 14]) rfl ?_); at_builtin; refine Kd.R_append_rows (Kd.int .i64) (w0 := w) w.heap.size rfl (.tmp 13) (.tmp 14) 74 3 (.int .i64 0) 8 rfl Try.underlying74 info3 rfl zz14 zz5 v133 y132 x3_1 _ _ _ (fun k_ => some k_ ≠ (.slice Ao9 x3_1.length co9 : Value).ownBlock) (fun _ => False) rfl rfl ?aO ?aR (fun _ _ h => h) (fun _ h => h.elim) ?aF ?aB ?aS ?aL ?_; (case aR => repeat (first | exact (Kd.R_reads' HO_3.out).2.2 | (with_reducible refine Kd.C_alloc ?_ _) | (with_reducible refine Kd.C_drewN ?_ _) | (with_reducible refine Kd.C_drew ?_))); (case aB => exact zz1); (case aF => exact (fun k_ hk => Kd.fresh' (Kd.R_lt zz52) k_ hk)); (case aO => exact (by (with_reducible repeat (first | apply Kd.R_alloc | apply Kd.R_drewN | apply Kd.R_drew)); exact Kd.R_mono HO134.out (fun _ hk => hk.2))); (case aS => exact (below_size zz1)); (case aL => have := LMc5.out; omega); intro v136 w8 ho hb hg hat; rw [← Ny135.out] at ho; have n0_ := Aside0.mk (Kd.R_after (ok := (fun _ => True)) zz52 hg hat); have n1_ := Aside0.mk (hb); have n2_ := Aside0.mk (ho); clear HO_3; clear HB; clear HO134; have HO_3 := n0_; have HB := n1_; have HO137 := n2_; clear n0_ n1_ n2_; clear ho hb hg hat))
      go_roundg k1
      case measure => have := HK1.out; omega
      case rel => exact ⟨(wrap64 (Int.tdiv x0_1 128)), (y135), zz0, H', ⟨zz64⟩, ⟨by (with_reducible repeat (first | apply Kd.R_alloc | apply Kd.R_drewN | apply Kd.R_drew)); exact Kd.R_mono HO137.out (fun _ hk => trivial)⟩, ⟨zz1⟩⟩
     ·
      rw [if_neg c5] at H
      exact absurd H zz28
    ·
     rw [if_neg c4] at H
     have c4b0 : decide (127 < x0_1) = false := decide_eq_false c4
     clear c4
     obtain rfl := Option.some.inj H
     go_wp2
     go_ret
     exact ⟨_, zz6, zz52, zz1⟩
end Go.Proofs.Ytpfconocipmcjaa.PC
namespace Go.Proofs.Ytpfconocipmcjaa.PC
open RowKit YtpfconocipmcjaaW.PrintWords YtpfconocipmcjaaW.PrintLast YtpfconocipmcjaaW.PrintMore
attribute [local go_sem] max2_int min2_int max_two min_two max_three min_three max_four min_four
set_option linter.unusedVariables false
set_option linter.unusedSimpArgs false
mutual
def gantletref05_Put.j0 : Nat → Bool → Int → Int → Bool → Int → Option (ByteArray × Int)
 | 0, _, _, _, _, _ => none
 | k + 1, x25, x139000, x139001, x139002, x139003 => if x25 = true then (some ((⟨#[]⟩ : ByteArray), 1)) else (if x139002 = true then (gantletref05_Put.j1 k (wrap64 ((wrap64 (64 * x139000)) + 32)) x139000 x139001 x139002 x139003) else (gantletref05_Put.j1 k (wrap64 (64 * x139000)) x139000 x139001 x139002 x139003))
def gantletref05_Put.j1 : Nat → Int → Int → Int → Bool → Int → Option (ByteArray × Int)
 | 0, _, _, _, _, _ => none
 | k + 1, x4, x139000, x139001, x139002, x139003 => if x139001 < 31 then (some (strOfNums (([(wrap64 (x4 + x139001)) % 256] : List Int)), 0)) else ((gantletref05_groups.f k x139001).bind fun t145 => (gantletref05_Put.l0 k (([(wrap64 (x4 + 31)) % 256] : List Int)) t145 0))
def gantletref05_Put.l0 : Nat → List Int → List Int → Int → Option (ByteArray × Int)
 | 0, _, _, _ => none
 | k + 1, x5, x6, x7 => if x7 < (x6.length : Int) then (if x7 < (wrap64 ((x6.length : Int) - 1)) then (if 0 ≤ x7 then (if x5.length < 140737488355328 then (gantletref05_Put.l0 k (x5 ++ [(wrap64 (128 + (rd x6 x7))) % 256]) x6 (wrap64 (x7 + 1))) else (none)) else (none)) else (if 0 ≤ x7 then (if x5.length < 140737488355328 then (gantletref05_Put.l0 k (x5 ++ [(rd x6 x7) % 256]) x6 (wrap64 (x7 + 1))) else (none)) else (none))) else (some (strOfNums x5, 0))
end
def gantletref05_Put.f (k : Nat) (a0_0 : Int) (a0_1 : Int) (a0_2 : Bool) (a0_3 : Int) : Option (ByteArray × Int) := if a0_0 < 0 then (gantletref05_Put.j0 k true a0_0 a0_1 a0_2 a0_3) else (if a0_0 > 3 then (gantletref05_Put.j0 k true a0_0 a0_1 a0_2 a0_3) else (if a0_1 < 0 then (gantletref05_Put.j0 k true a0_0 a0_1 a0_2 a0_3) else (gantletref05_Put.j0 k (decide (a0_1 > 268435455)) a0_0 a0_1 a0_2 a0_3)))
set_option maxHeartbeats 8000000 in
set_option maxRecDepth 100000 in
theorem gantletref05_Put.calls (k : Nat) (a0_0 : Int) (a0_1 : Int) (a0_2 : Bool) (a0_3 : Int) (r1 : ByteArray) (r2 : Int) (w : World) (h : gantletref05_Put.f k a0_0 a0_1 a0_2 a0_3 = some (r1, r2)) :
 Calls Try.prog 24 #[.agg #[.int .i64 a0_0, .int .i64 a0_1, .bool a0_2, .int .i64 a0_3]] w fun e w' => e = .returned (.tuple #[.string r1, .int .i64 r2]) ∧ Below w.heap.size w w' := by
 have hu37 := Try.underlying37
 have HB := Aside0.mk (Below.refl w.heap.size w)
 have H : (if a0_0 < 0 then (gantletref05_Put.j0 k true a0_0 a0_1 a0_2 a0_3) else (if a0_0 > 3 then (gantletref05_Put.j0 k true a0_0 a0_1 a0_2 a0_3) else (if a0_1 < 0 then (gantletref05_Put.j0 k true a0_0 a0_1 a0_2 a0_3) else (gantletref05_Put.j0 k (decide (a0_1 > 268435455)) a0_0 a0_1 a0_2 a0_3)))) = some (r1, r2) := h
 clear h
 have HC2 := Aside0.mk H
 clear H
 go_enter Try.func24, Try.ntmps24
 go_upto_region 1 with (first | ((with_reducible refine gate_dst (N := 1) rfl ?_); refine zzbx (N := 1) (cs := #[.int .i64 a0_0, .int .i64 a0_1, .bool a0_2, .int .i64 a0_3]) (t := 37) ?_; intro gb138 hg w3 hbox hb; have n0_ := Aside0.mk (below_step zz1 hb); have n1_ := Aside0.mk (hbox); have n2_ := Aside0.mk ((zz42 : w.heap.size ≤ gb138)); have n3_ := n2_; clear HB; have HB := n0_; have BK138 := n1_; have GW138 := n2_; have GE138 := n3_; clear n0_ n1_ n2_ n3_; clear hb hbox hg))
 (try simp only [Act.put, List.setIfInBounds_toArray, List.set_cons_zero, List.set_cons_succ])
 go_cut [25] (fun v25 wc => ∃ (kq : Nat) (x25_1 : Bool), v25 = .bool x25_1 ∧ Aside0 (gantletref05_Put.j0 kq x25_1 a0_0 a0_1 a0_2 a0_3 = some (r1, r2)) ∧ Aside0 (kq ≤ k) ∧ Aside0 (wc.heap[gb138]? = some (.cells #[.int .i64 a0_0, .int .i64 a0_1, .bool a0_2, .int .i64 a0_3] 37 (0, 0))) ∧ Aside0 (Below w.heap.size w wc))
 case first =>
  have H := HC2.out
  clear HC2
  by_cases c4 : a0_0 < 0
  ·
   rw [if_pos c4] at H
   have c4b0 : decide (a0_0 < 0) = true := decide_eq_true c4
   clear c4
   (first | rw [c4b0] | (simp only [i64_w, i32_w]; rw [c4b0]) | skip)
   have H' := Aside0.mk H
   clear H
   have hcz5_0 : w3.cell? ⟨gb138, 0, none⟩ = some (.int .i64 a0_0) := (blk_cell BK138.out 0).trans rfl
   have hcz5_1 : w3.cell? ⟨gb138, 1, none⟩ = some (.int .i64 a0_1) := (blk_cell BK138.out 1).trans rfl
   have hcz5_2 : w3.cell? ⟨gb138, 2, none⟩ = some (.bool a0_2) := (blk_cell BK138.out 2).trans rfl
   have hcz5_3 : w3.cell? ⟨gb138, 3, none⟩ = some (.int .i64 a0_3) := (blk_cell BK138.out 3).trans rfl
   have hfz5_0 := blk_frozen BK138.out 0
   have hfz5_1 := blk_frozen BK138.out 1
   have hfz5_2 := blk_frozen BK138.out 2
   have hfz5_3 := blk_frozen BK138.out 3
   go_wp2
   go_meet
   case rel => exact ⟨_, (true), zz0, H', ⟨zz23⟩, ⟨zz25⟩, ⟨zz8⟩⟩
  ·
   rw [if_neg c4] at H
   have c4b0 : decide (a0_0 < 0) = false := decide_eq_false c4
   clear c4
   (first | rw [c4b0] | (simp only [i64_w, i32_w]; rw [c4b0]) | skip)
   by_cases c6 : a0_0 > 3
   ·
    rw [if_pos c6] at H
    have c6b0 : decide (3 < a0_0) = true := decide_eq_true c6
    clear c6
    have H' := Aside0.mk H
    clear H
    have hcz7_0 : w3.cell? ⟨gb138, 0, none⟩ = some (.int .i64 a0_0) := (blk_cell BK138.out 0).trans rfl
    have hcz7_1 : w3.cell? ⟨gb138, 1, none⟩ = some (.int .i64 a0_1) := (blk_cell BK138.out 1).trans rfl
    have hcz7_2 : w3.cell? ⟨gb138, 2, none⟩ = some (.bool a0_2) := (blk_cell BK138.out 2).trans rfl
    have hcz7_3 : w3.cell? ⟨gb138, 3, none⟩ = some (.int .i64 a0_3) := (blk_cell BK138.out 3).trans rfl
    have hfz7_0 := blk_frozen BK138.out 0
    have hfz7_1 := blk_frozen BK138.out 1
    have hfz7_2 := blk_frozen BK138.out 2
    have hfz7_3 := blk_frozen BK138.out 3
    go_wp2
    go_meet
    case rel => exact ⟨_, (true), zz0, H', ⟨zz23⟩, ⟨zz25⟩, ⟨zz8⟩⟩
   ·
    rw [if_neg c6] at H
    have c6b0 : decide (3 < a0_0) = false := decide_eq_false c6
    clear c6
    by_cases c8 : a0_1 < 0
    ·
     rw [if_pos c8] at H
     have c8b0 : decide (a0_1 < 0) = true := decide_eq_true c8
     clear c8
     have H' := Aside0.mk H
     clear H
     have hcz9_0 : w3.cell? ⟨gb138, 0, none⟩ = some (.int .i64 a0_0) := (blk_cell BK138.out 0).trans rfl
     have hcz9_1 : w3.cell? ⟨gb138, 1, none⟩ = some (.int .i64 a0_1) := (blk_cell BK138.out 1).trans rfl
     have hcz9_2 : w3.cell? ⟨gb138, 2, none⟩ = some (.bool a0_2) := (blk_cell BK138.out 2).trans rfl
     have hcz9_3 : w3.cell? ⟨gb138, 3, none⟩ = some (.int .i64 a0_3) := (blk_cell BK138.out 3).trans rfl
     have hfz9_0 := blk_frozen BK138.out 0
     have hfz9_1 := blk_frozen BK138.out 1
     have hfz9_2 := blk_frozen BK138.out 2
     have hfz9_3 := blk_frozen BK138.out 3
     go_wp2
     go_meet
     case rel => exact ⟨_, (true), zz0, H', ⟨zz23⟩, ⟨zz25⟩, ⟨zz8⟩⟩
    ·
     rw [if_neg c8] at H
     have c8b0 : decide (a0_1 < 0) = false := decide_eq_false c8
     clear c8
     have H' := Aside0.mk H
     clear H
     have hcz10_0 : w3.cell? ⟨gb138, 0, none⟩ = some (.int .i64 a0_0) := (blk_cell BK138.out 0).trans rfl
     have hcz10_1 : w3.cell? ⟨gb138, 1, none⟩ = some (.int .i64 a0_1) := (blk_cell BK138.out 1).trans rfl
     have hcz10_2 : w3.cell? ⟨gb138, 2, none⟩ = some (.bool a0_2) := (blk_cell BK138.out 2).trans rfl
     have hcz10_3 : w3.cell? ⟨gb138, 3, none⟩ = some (.int .i64 a0_3) := (blk_cell BK138.out 3).trans rfl
     have hfz10_0 := blk_frozen BK138.out 0
     have hfz10_1 := blk_frozen BK138.out 1
     have hfz10_2 := blk_frozen BK138.out 2
     have hfz10_3 := blk_frozen BK138.out 3
     go_wp2
     go_meet
     case rel => exact ⟨_, (decide (a0_1 > 268435455)), zz0, H', ⟨zz23⟩, ⟨zz25⟩, ⟨zz8⟩⟩
 case rest =>
  clear HC2
  try clear c2
  try clear p2
  try clear c4
  try clear c4b0
  try clear c6
  try clear c6b0
  try clear c8
  try clear c8b0
  try clear hcz10_0
  try clear hcz10_1
  try clear hcz10_2
  try clear hcz10_3
  try clear hcz5_0
  try clear hcz5_1
  try clear hcz5_2
  try clear hcz5_3
  try clear hcz7_0
  try clear hcz7_1
  try clear hcz7_2
  try clear hcz7_3
  try clear hcz9_0
  try clear hcz9_1
  try clear hcz9_2
  try clear hcz9_3
  try clear hfz10_0
  try clear hfz10_1
  try clear hfz10_2
  try clear hfz10_3
  try clear hfz5_0
  try clear hfz5_1
  try clear hfz5_2
  try clear hfz5_3
  try clear hfz7_0
  try clear hfz7_1
  try clear hfz7_2
  try clear hfz7_3
  try clear hfz9_0
  try clear hfz9_1
  try clear hfz9_2
  try clear hfz9_3
  obtain ⟨kq, x25_1, rfl, HA, HJ1, BK138, HB⟩ := hcut
  cases kq with
  | zero => exact absurd HA.out (by simp [gantletref05_Put.j0])
  | succ kj1 =>
    have H := HA.out
    clear HA
    simp only [gantletref05_Put.j0] at H
    by_cases c11 : x25_1 = true
    ·
     subst c11
     rw [if_pos rfl] at H
     simp only [Option.some.injEq, Prod.mk.injEq] at H
     obtain ⟨rfl, rfl⟩ := H
     go_wp2
     go_ret2
     exact ⟨zz6, zz8⟩
    ·
     replace c11 := Bool.eq_false_iff.mpr c11
     subst c11
     rw [if_neg (show ¬ (false = true) by decide)] at H
     have HC12 := Aside0.mk H
     clear H
     have hcz13_0 : wc.cell? ⟨gb138, 0, none⟩ = some (.int .i64 a0_0) := (blk_cell BK138.out 0).trans rfl
     have hcz13_1 : wc.cell? ⟨gb138, 1, none⟩ = some (.int .i64 a0_1) := (blk_cell BK138.out 1).trans rfl
     have hcz13_2 : wc.cell? ⟨gb138, 2, none⟩ = some (.bool a0_2) := (blk_cell BK138.out 2).trans rfl
     have hcz13_3 : wc.cell? ⟨gb138, 3, none⟩ = some (.int .i64 a0_3) := (blk_cell BK138.out 3).trans rfl
     have hfz13_0 := blk_frozen BK138.out 0
     have hfz13_1 := blk_frozen BK138.out 1
     have hfz13_2 := blk_frozen BK138.out 2
     have hfz13_3 := blk_frozen BK138.out 3
     go_upto_if 30 with (fail)
     go_cut [4] (fun v4 wc => ∃ (kq : Nat) (x4_11 : Int), v4 = .int .i64 x4_11 ∧ Aside0 (gantletref05_Put.j1 kq x4_11 a0_0 a0_1 a0_2 a0_3 = some (r1, r2)) ∧ Aside0 (kq ≤ kj1) ∧ Aside0 (wc.heap[gb138]? = some (.cells #[.int .i64 a0_0, .int .i64 a0_1, .bool a0_2, .int .i64 a0_3] 37 (0, 0))) ∧ Aside0 (Below w.heap.size w wc))
     case first =>
      have H := HC12.out
      clear HC12
      by_cases c14 : a0_2 = true
      ·
       subst c14
       rw [if_pos rfl] at H
       have H' := Aside0.mk H
       clear H
       go_wp2
       go_meet
       case rel => exact ⟨_, (wrap64 ((wrap64 (64 * a0_0)) + 32)), zz0, H', ⟨by have := HJ1.out; first | omega | exact Nat.le_refl _⟩, ⟨zz25⟩, ⟨zz8⟩⟩
      ·
       replace c14 := Bool.eq_false_iff.mpr c14
       subst c14
       rw [if_neg (show ¬ (false = true) by decide)] at H
       have H' := Aside0.mk H
       clear H
       go_wp2
       go_meet
       case rel => exact ⟨_, (wrap64 (64 * a0_0)), zz0, H', ⟨by have := HJ1.out; first | omega | exact Nat.le_refl _⟩, ⟨zz25⟩, ⟨zz8⟩⟩
     case rest =>
      clear HC12
      try clear c1
      try clear c2
      try clear p2
      try clear c4
      try clear c4b0
      try clear c6
      try clear c6b0
      try clear p6
      try clear c8
      try clear c8b0
      try clear c11
      try clear c14
      try clear hcz10_0
      try clear hcz10_1
      try clear hcz10_2
      try clear hcz10_3
      try clear hcz13_0
      try clear hcz13_1
      try clear hcz13_2
      try clear hcz13_3
      try clear hcz5_0
      try clear hcz5_1
      try clear hcz5_2
      try clear hcz5_3
      try clear hcz7_0
      try clear hcz7_1
      try clear hcz7_2
      try clear hcz7_3
      try clear hcz9_0
      try clear hcz9_1
      try clear hcz9_2
      try clear hcz9_3
      try clear hfz10_0
      try clear hfz10_1
      try clear hfz10_2
      try clear hfz10_3
      try clear hfz13_0
      try clear hfz13_1
      try clear hfz13_2
      try clear hfz13_3
      try clear hfz5_0
      try clear hfz5_1
      try clear hfz5_2
      try clear hfz5_3
      try clear hfz7_0
      try clear hfz7_1
      try clear hfz7_2
      try clear hfz7_3
      try clear hfz9_0
      try clear hfz9_1
      try clear hfz9_2
      try clear hfz9_3
      try clear p2
      obtain ⟨kq, x4_11, rfl, HA, HJ11, BK138, HB⟩ := hcut
      cases kq with
      | zero => exact absurd HA.out (by simp [gantletref05_Put.j1])
      | succ kj11 =>
        have H := HA.out
        clear HA
        simp only [gantletref05_Put.j1] at H
        by_cases c15 : a0_1 < 31
        ·
         rw [if_pos c15] at H
         have c15b0 : decide (a0_1 < 31) = true := decide_eq_true c15
         clear c15
         obtain ⟨y139, hy139⟩ : ∃ y_ : List Int, y_ = (([(wrap64 (x4_11 + a0_1)) % 256] : List Int)) := ⟨_, rfl⟩
         replace H : (some (strOfNums y139, 0)) = some (r1, r2) := by first | (rw [hy139]; with_reducible exact H) | (have H2_ := (Option.bind_some _ _).symm.trans H; rw [hy139]; with_reducible exact H2_) | (have H2_ := (Option.bind_some _ _).symm.trans H; with_reducible exact H2_) | with_reducible exact H | (rw [hy139]; exact H) | exact H
         have Ny139 := Aside0.mk hy139
         clear hy139
         simp only [Option.some.injEq, Prod.mk.injEq] at H
         obtain ⟨rfl, rfl⟩ := H
         have hcz16_0 : wc.cell? ⟨gb138, 0, none⟩ = some (.int .i64 a0_0) := (blk_cell BK138.out 0).trans rfl
         have hcz16_1 : wc.cell? ⟨gb138, 1, none⟩ = some (.int .i64 a0_1) := (blk_cell BK138.out 1).trans rfl
         have hcz16_2 : wc.cell? ⟨gb138, 2, none⟩ = some (.bool a0_2) := (blk_cell BK138.out 2).trans rfl
         have hcz16_3 : wc.cell? ⟨gb138, 3, none⟩ = some (.int .i64 a0_3) := (blk_cell BK138.out 3).trans rfl
         have hfz16_0 := blk_frozen BK138.out 0
         have hfz16_1 := blk_frozen BK138.out 1
         have hfz16_2 := blk_frozen BK138.out 2
         have hfz16_3 := blk_frozen BK138.out 3
         go_wp2_with (first | ((with_reducible refine gate_dst (N := 41) rfl ?_); refine Kd.R_lit (Kd.int .u8) _ 5 ?hg (N := 41) ?hd (xs := ([(wrap64 (x4_11 + a0_1)) % 256] : List Int)) (inner := [.int .u8 ((wrap64 (x4_11 + a0_1)) % 256)]) (ok := fun _ => True) (okp := fun _ => True) ?hr ?hp (fun _ hk => hk) trivial (Below.refl _ _) (Nat.le_refl _) zz28 ?_; (case hd => rfl); (case hg => rfl); (case hr => first | (go_simp; done) | (go_simp; rfl)); (case hp => exact (Reps.one (show Kd.M (Kd.int .u8) _ _ _ ((wrap64 (x4_11 + a0_1)) % 256) [.int .u8 ((wrap64 (x4_11 + a0_1)) % 256)] from rfl) (Reps.none _ _))); intro v140 w17 ho18 hb hg_ hnew_; clear hg_ hnew_; (first | rw [← Ny139.out] at ho18 | (simp only [Int.reduceToNat] at ho18; rw [← Ny139.out] at ho18)); have n0_ := Aside0.mk (Kd.R_lower ho18 (below_size zz8)); have n1_ := Aside0.mk (blk_below (g := gb138) (o := .cells #[.int .i64 a0_0, .int .i64 a0_1, .bool a0_2, .int .i64 a0_3] 37 (0, 0)) zz25 hb); have n2_ := Aside0.mk (below_step zz8 hb); clear BK138; clear HB; have HO141 := n0_; have BK138 := n1_; have HB := n2_; clear n0_ n1_ n2_; clear hb ho18; have hcv19 := own_string (P := Try.prog) Try.underlying52 Try.underlying5 Try.underlying9 (Kd.own_of_R HO141.out)))
         go_ret2
         exact ⟨zz6, zz8⟩
        ·
         rw [if_neg c15] at H
         have c15b0 : decide (a0_1 < 31) = false := decide_eq_false c15
         clear c15
         obtain ⟨y142, hy142⟩ : ∃ y_ : List Int, y_ = (([(wrap64 (x4_11 + 31)) % 256] : List Int)) := ⟨_, rfl⟩
         replace H : ((gantletref05_groups.f kj11 a0_1).bind fun t145 => (gantletref05_Put.l0 kj11 y142 t145 0)) = some (r1, r2) := by first | (rw [hy142]; with_reducible exact H) | (have H2_ := (Option.bind_some _ _).symm.trans H; rw [hy142]; with_reducible exact H2_) | (have H2_ := (Option.bind_some _ _).symm.trans H; with_reducible exact H2_) | with_reducible exact H | (rw [hy142]; exact H) | exact H
         have Ny142 := Aside0.mk hy142
         clear hy142
         replace H := Option.bind_eq_some_iff.mp H
         obtain ⟨t145, A200, H⟩ := H
         replace H : (gantletref05_Put.l0 kj11 y142 t145 0) = some (r1, r2) := H
         have A20 := Aside0.mk A200
         clear A200
         have H' := Aside0.mk H
         clear H
         have hcz21_0 : wc.cell? ⟨gb138, 0, none⟩ = some (.int .i64 a0_0) := (blk_cell BK138.out 0).trans rfl
         have hcz21_1 : wc.cell? ⟨gb138, 1, none⟩ = some (.int .i64 a0_1) := (blk_cell BK138.out 1).trans rfl
         have hcz21_2 : wc.cell? ⟨gb138, 2, none⟩ = some (.bool a0_2) := (blk_cell BK138.out 2).trans rfl
         have hcz21_3 : wc.cell? ⟨gb138, 3, none⟩ = some (.int .i64 a0_3) := (blk_cell BK138.out 3).trans rfl
         have hfz21_0 := blk_frozen BK138.out 0
         have hfz21_1 := blk_frozen BK138.out 1
         have hfz21_2 := blk_frozen BK138.out 2
         have hfz21_3 := blk_frozen BK138.out 3
         go_wp2_with (first | ((with_reducible refine gate_dst (N := 46) rfl ?_); refine Kd.R_lit (Kd.int .u8) _ 5 ?hg (N := 46) ?hd (xs := ([(wrap64 (x4_11 + 31)) % 256] : List Int)) (inner := [.int .u8 ((wrap64 (x4_11 + 31)) % 256)]) (ok := fun _ => True) (okp := fun _ => True) ?hr ?hp (fun _ hk => hk) trivial (Below.refl _ _) (Nat.le_refl _) zz28 ?_; (case hd => rfl); (case hg => rfl); (case hr => first | (go_simp; done) | (go_simp; rfl)); (case hp => exact (Reps.one (show Kd.M (Kd.int .u8) _ _ _ ((wrap64 (x4_11 + 31)) % 256) [.int .u8 ((wrap64 (x4_11 + 31)) % 256)] from rfl) (Reps.none _ _))); intro v143 w22 ho23 hb hg_ hnew_; clear hg_ hnew_; (first | rw [← Ny142.out] at ho23 | (simp only [Int.reduceToNat] at ho23; rw [← Ny142.out] at ho23)); have n0_ := Aside0.mk (Kd.R_lower ho23 (below_size zz8)); have n1_ := Aside0.mk (blk_below (g := gb138) (o := .cells #[.int .i64 a0_0, .int .i64 a0_1, .bool a0_2, .int .i64 a0_3] 37 (0, 0)) zz25 hb); have n2_ := Aside0.mk (below_step zz8 hb); clear BK138; clear HB; have HO144 := n0_; have BK138 := n1_; have HB := n2_; clear n0_ n1_ n2_; clear hb ho23; have hcz24_0 : w22.cell? ⟨gb138, 0, none⟩ = some (.int .i64 a0_0) := (blk_cell BK138.out 0).trans rfl; have hcz24_1 : w22.cell? ⟨gb138, 1, none⟩ = some (.int .i64 a0_1) := (blk_cell BK138.out 1).trans rfl; have hcz24_2 : w22.cell? ⟨gb138, 2, none⟩ = some (.bool a0_2) := (blk_cell BK138.out 2).trans rfl; have hcz24_3 : w22.cell? ⟨gb138, 3, none⟩ = some (.int .i64 a0_3) := (blk_cell BK138.out 3).trans rfl; have hfz24_0 := blk_frozen BK138.out 0; have hfz24_1 := blk_frozen BK138.out 1; have hfz24_2 := blk_frozen BK138.out 2; have hfz24_3 := blk_frozen BK138.out 3) | ((with_reducible refine gate_callee (f := 40) rfl ?_); refine goesL_ (some 49) rfl rfl Try.func40 zz13 rfl #[.int .i64 a0_1] rfl zz4 ?_; (with_reducible refine (gantletref05_groups.calls kj11 a0_1 t145 _ A20.out).mono ?_); rintro e w25 ⟨v146, rfl, ho0, hb⟩; refine ⟨_, rfl, ?_⟩; have n0_ := Aside0.mk (Kd.R_below (by (with_reducible repeat (first | apply Kd.R_alloc | apply Kd.R_drewN | apply Kd.R_drew)); exact HO144.out) hb); have n1_ := Aside0.mk (Kd.R_lower ho0 (below_size zz8)); have n2_ := Aside0.mk (blk_below (g := gb138) (o := .cells #[.int .i64 a0_0, .int .i64 a0_1, .bool a0_2, .int .i64 a0_3] 37 (0, 0)) zz25 hb); have n3_ := Aside0.mk (below_step zz8 hb); clear HO144; clear BK138; clear HB; have HO144 := n0_; have HO147 := n1_; have BK138 := n2_; have HB := n3_; clear n0_ n1_ n2_ n3_; (try clear hb); (try clear hb2); (try clear hk); (try clear hi); (try clear ho0)))
         go_loopg [5, 7] kj11 (fun kq v5 v7 w' => ∃ (x5_3 : List Int) (x7_3 : Int), v7 = .int .i64 x7_3 ∧ Aside0 (gantletref05_Put.l0 kq x5_3 t145 x7_3 = some (r1, r2)) ∧ Aside0 (kq ≤ kj11) ∧ Aside0 (Kd.R (Kd.int .u8) 5 w' w.heap.size (fun _ => True) v5 x5_3) ∧ Aside0 (Kd.R (Kd.int .i64) 3 w' w.heap.size (fun _ => True) v146 t145) ∧ Aside0 (w'.heap[gb138]? = some (.cells #[.int .i64 a0_0, .int .i64 a0_1, .bool a0_2, .int .i64 a0_3] 37 (0, 0))) ∧ Aside0 (Below w.heap.size w w'))
         case atStart => exact ⟨(y142), (0), zz0, H', ⟨Nat.le_refl _⟩, ⟨by (with_reducible repeat (first | apply Kd.R_alloc | apply Kd.R_drewN | apply Kd.R_drew)); exact HO144.out⟩, ⟨by (with_reducible repeat (first | apply Kd.R_alloc | apply Kd.R_drewN | apply Kd.R_drew)); exact HO147.out⟩, ⟨zz25⟩, ⟨zz8⟩⟩
         case round =>
          clear H'
          try clear c1
          try clear hcv1
          try clear c2
          try clear p2
          try clear c4
          try clear c4b0
          try clear c6
          try clear c6b0
          try clear p6
          try clear c8
          try clear c8b0
          try clear c11
          try clear c14
          try clear c15
          try clear c15b0
          try clear hcv19
          try clear c24
          try clear hcz10_0
          try clear hcz10_1
          try clear hcz10_2
          try clear hcz10_3
          try clear hcz13_0
          try clear hcz13_1
          try clear hcz13_2
          try clear hcz13_3
          try clear hcz16_0
          try clear hcz16_1
          try clear hcz16_2
          try clear hcz16_3
          try clear hcz21_0
          try clear hcz21_1
          try clear hcz21_2
          try clear hcz21_3
          try clear hcz24_0
          try clear hcz24_1
          try clear hcz24_2
          try clear hcz24_3
          try clear hcz5_0
          try clear hcz5_1
          try clear hcz5_2
          try clear hcz5_3
          try clear hcz7_0
          try clear hcz7_1
          try clear hcz7_2
          try clear hcz7_3
          try clear hcz9_0
          try clear hcz9_1
          try clear hcz9_2
          try clear hcz9_3
          try clear hfz10_0
          try clear hfz10_1
          try clear hfz10_2
          try clear hfz10_3
          try clear hfz13_0
          try clear hfz13_1
          try clear hfz13_2
          try clear hfz13_3
          try clear hfz16_0
          try clear hfz16_1
          try clear hfz16_2
          try clear hfz16_3
          try clear hfz21_0
          try clear hfz21_1
          try clear hfz21_2
          try clear hfz21_3
          try clear hfz24_0
          try clear hfz24_1
          try clear hfz24_2
          try clear hfz24_3
          try clear hfz5_0
          try clear hfz5_1
          try clear hfz5_2
          try clear hfz5_3
          try clear hfz7_0
          try clear hfz7_1
          try clear hfz7_2
          try clear hfz7_3
          try clear hfz9_0
          try clear hfz9_1
          try clear hfz9_2
          try clear hfz9_3
          try clear p2
          try clear p6
          obtain ⟨x5_3, x7_3, rfl, HA, HK3, HO_5, HO_6, BK138, HB⟩ := hrel
          cases gk with
          | zero => exact absurd HA.out (by simp [gantletref05_Put.l0])
          | succ k3 =>
            have H := HA.out
            clear HA
            simp only [gantletref05_Put.l0] at H
            by_cases c26 : x7_3 < (t145.length : Int)
            ·
             rw [if_pos c26] at H
             have c26b0 : decide (x7_3 < (t145.length : Int)) = true := decide_eq_true c26
             clear c26
             by_cases c27 : x7_3 < (wrap64 ((t145.length : Int) - 1))
             ·
              rw [if_pos c27] at H
              have c27b0 : decide (x7_3 < (wrap64 ((t145.length : Int) - 1))) = true := decide_eq_true c27
              clear c27
              by_cases c28 : 0 ≤ x7_3
              ·
               rw [if_pos c28] at H
               have c28b0 : decide (0 ≤ x7_3) = true := decide_eq_true c28
               clear c28
               by_cases c29 : x5_3.length < 140737488355328
               ·
                rw [if_pos c29] at H
                have LMc29 := Aside0.mk c29
                clear c29
                obtain ⟨y149, hy149⟩ : ∃ y_ : List Int, y_ = (x5_3 ++ [(wrap64 (128 + (rd t145 x7_3))) % 256]) := ⟨_, rfl⟩
                replace H : (gantletref05_Put.l0 k3 y149 t145 (wrap64 (x7_3 + 1))) = some (r1, r2) := by first | (rw [hy149]; with_reducible exact H) | (have H2_ := (Option.bind_some _ _).symm.trans H; rw [hy149]; with_reducible exact H2_) | (have H2_ := (Option.bind_some _ _).symm.trans H; with_reducible exact H2_) | with_reducible exact H | (rw [hy149]; exact H) | exact H
                have Ny149 := Aside0.mk hy149
                clear hy149
                have H' := Aside0.mk H
                clear H
                obtain ⟨Ao30, co30, eo30⟩ := Kd.R_slice HO_6.out
                subst eo30
                have p148 : 0 ≤ (x7_3 : Int) := of_decide_eq_true zz3
                have q148 : x7_3 < (t145.length : Int) := of_decide_eq_true zz3
                obtain ⟨ad148, e148, hx148_0⟩ := Kd.at_int (Kd.R_reads' HO_6.out).2.2 x7_3 p148 q148
                cases e148
                replace p148 := eq_true p148
                replace q148 := eq_true q148
                go_wp2_with (first | ((with_reducible refine gate_builtin (b := .append) (xs := #[.tmp 61, .tmp 68]) rfl ?_); at_builtin; refine Kd.R_append (Kd.int .u8) (w0 := w) w.heap.size rfl (.tmp 61) (.tmp 68) 52 5 (.int .u8 0) 1 rfl Try.underlying52 info5 rfl zz14 zz5 u5 x5_3 ((wrap64 (128 + (rd t145 x7_3))) % 256) [.int .u8 ((wrap64 (128 + (rd t145 x7_3))) % 256)] (fun _ => True) (fun _ => False) rfl rfl ?aP (fun _ hk => hk.elim) ?aF ?aO ?aB ?aS ?aL ?_; (case aP => exact rfl); (case aB => exact zz8); (case aF => exact (fun _ _ => trivial)); (case aO => exact zz60); (case aS => exact (below_size zz8)); (case aL => have := LMc29.out; omega); intro v150 w31 ho hb hg hat; rw [← Ny149.out] at ho; have n0_ := Aside0.mk (Kd.R_over' zz61 (Kd.R_typed zz60) zz14 hg); have n1_ := Aside0.mk (blk_grown (g := gb138) (o := .cells #[.int .i64 a0_0, .int .i64 a0_1, .bool a0_2, .int .i64 a0_3] 37 (0, 0)) zz25 hg (Kd.R_ne HO_5.out BK138.out zz14)); have n2_ := Aside0.mk (hb); have n3_ := Aside0.mk (ho); clear HO_6; clear BK138; clear HB; clear HO_5; have HO_6 := n0_; have BK138 := n1_; have HB := n2_; have HO151 := n3_; clear n0_ n1_ n2_ n3_; clear ho hb hg hat))
                go_roundg k3
                case measure => have := HJ1.out; have := HJ11.out; have := HK3.out; omega
                case rel => exact ⟨(y149), (wrap64 (x7_3 + 1)), zz0, H', ⟨by have := HJ1.out; have := HJ11.out; have := HK3.out; omega⟩, ⟨by (with_reducible repeat (first | apply Kd.R_alloc | apply Kd.R_drewN | apply Kd.R_drew)); exact HO151.out⟩, ⟨zz61⟩, ⟨zz25⟩, ⟨zz8⟩⟩
               ·
                rw [if_neg c29] at H
                exact absurd H zz28
              ·
               rw [if_neg c28] at H
               exact absurd H zz28
             ·
              rw [if_neg c27] at H
              have c27b0 : decide (x7_3 < (wrap64 ((t145.length : Int) - 1))) = false := decide_eq_false c27
              clear c27
              by_cases c32 : 0 ≤ x7_3
              ·
               rw [if_pos c32] at H
               have c32b0 : decide (0 ≤ x7_3) = true := decide_eq_true c32
               clear c32
               by_cases c33 : x5_3.length < 140737488355328
               ·
                rw [if_pos c33] at H
                have LMc33 := Aside0.mk c33
                clear c33
                obtain ⟨y153, hy153⟩ : ∃ y_ : List Int, y_ = (x5_3 ++ [(rd t145 x7_3) % 256]) := ⟨_, rfl⟩
                replace H : (gantletref05_Put.l0 k3 y153 t145 (wrap64 (x7_3 + 1))) = some (r1, r2) := by first | (rw [hy153]; with_reducible exact H) | (have H2_ := (Option.bind_some _ _).symm.trans H; rw [hy153]; with_reducible exact H2_) | (have H2_ := (Option.bind_some _ _).symm.trans H; with_reducible exact H2_) | with_reducible exact H | (rw [hy153]; exact H) | exact H
                have Ny153 := Aside0.mk hy153
                clear hy153
                have H' := Aside0.mk H
                clear H
                obtain ⟨Ao34, co34, eo34⟩ := Kd.R_slice HO_6.out
                subst eo34
                have p152 : 0 ≤ (x7_3 : Int) := of_decide_eq_true zz3
                have q152 : x7_3 < (t145.length : Int) := of_decide_eq_true zz3
                obtain ⟨ad152, e152, hx152_0⟩ := Kd.at_int (Kd.R_reads' HO_6.out).2.2 x7_3 p152 q152
                cases e152
                replace p152 := eq_true p152
                replace q152 := eq_true q152
                go_wp2_with (first | ((with_reducible refine gate_builtin (b := .append) (xs := #[.tmp 70, .tmp 76]) rfl ?_); at_builtin; refine Kd.R_append (Kd.int .u8) (w0 := w) w.heap.size rfl (.tmp 70) (.tmp 76) 52 5 (.int .u8 0) 1 rfl Try.underlying52 info5 rfl zz14 zz5 u5 x5_3 ((rd t145 x7_3) % 256) [.int .u8 ((rd t145 x7_3) % 256)] (fun _ => True) (fun _ => False) rfl rfl ?aP (fun _ hk => hk.elim) ?aF ?aO ?aB ?aS ?aL ?_; (case aP => exact rfl); (case aB => exact zz8); (case aF => exact (fun _ _ => trivial)); (case aO => exact zz60); (case aS => exact (below_size zz8)); (case aL => have := LMc33.out; omega); intro v154 w35 ho hb hg hat; rw [← Ny153.out] at ho; have n0_ := Aside0.mk (Kd.R_over' zz61 (Kd.R_typed zz60) zz14 hg); have n1_ := Aside0.mk (blk_grown (g := gb138) (o := .cells #[.int .i64 a0_0, .int .i64 a0_1, .bool a0_2, .int .i64 a0_3] 37 (0, 0)) zz25 hg (Kd.R_ne HO_5.out BK138.out zz14)); have n2_ := Aside0.mk (hb); have n3_ := Aside0.mk (ho); clear HO_6; clear BK138; clear HB; clear HO_5; have HO_6 := n0_; have BK138 := n1_; have HB := n2_; have HO155 := n3_; clear n0_ n1_ n2_ n3_; clear ho hb hg hat))
                go_roundg k3
                case measure => have := HJ1.out; have := HJ11.out; have := HK3.out; omega
                case rel => exact ⟨(y153), (wrap64 (x7_3 + 1)), zz0, H', ⟨by have := HJ1.out; have := HJ11.out; have := HK3.out; omega⟩, ⟨by (with_reducible repeat (first | apply Kd.R_alloc | apply Kd.R_drewN | apply Kd.R_drew)); exact HO155.out⟩, ⟨zz61⟩, ⟨zz25⟩, ⟨zz8⟩⟩
               ·
                rw [if_neg c33] at H
                exact absurd H zz28
              ·
               rw [if_neg c32] at H
               exact absurd H zz28
            ·
             rw [if_neg c26] at H
             have c26b0 : decide (x7_3 < (t145.length : Int)) = false := decide_eq_false c26
             clear c26
             simp only [Option.some.injEq, Prod.mk.injEq] at H
             obtain ⟨rfl, rfl⟩ := H
             obtain ⟨Ao36, co36, eo36⟩ := Kd.R_slice HO_6.out
             subst eo36
             have hcv37 := own_string (P := Try.prog) Try.underlying52 Try.underlying5 Try.underlying9 (Kd.own_of_R HO_5.out)
             go_wp2
             go_ret2
             exact ⟨zz6, zz8⟩
end Go.Proofs.Ytpfconocipmcjaa.PC
namespace Go.Proofs.Ytpfconocipmcjaa.PC
open RowKit YtpfconocipmcjaaW.PrintWords YtpfconocipmcjaaW.PrintLast YtpfconocipmcjaaW.PrintMore
attribute [local go_sem] max2_int min2_int max_two min_two max_three min_three max_four min_four
set_option linter.unusedVariables false
set_option linter.unusedSimpArgs false
end Go.Proofs.Ytpfconocipmcjaa.PC
