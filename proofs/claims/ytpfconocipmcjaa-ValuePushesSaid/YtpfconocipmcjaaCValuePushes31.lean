/- What the row of ValuePushes stands on, made small by a program of this session (pack.py). -/
import Derived.Test.YtpfconocipmcjaaCValuePushes2
import Derived.Test.YtpfconocipmcjaaCValuePushes4
import Derived.Test.YtpfconocipmcjaaCValuePushes5
namespace Go.Proofs.Ytpfconocipmcjaa.PC
open RowKit YtpfconocipmcjaaW.PrintWords YtpfconocipmcjaaW.PrintLast YtpfconocipmcjaaW.PrintMore
attribute [local go_sem] max2_int min2_int max_two min_two max_three min_three max_four min_four
set_option linter.unusedVariables false
set_option linter.unusedSimpArgs false
def gantletref09_and.f (l0 : List (S39)) (a1_0 : Int) (a1_1 : Int) (a1_2 : Int) (a1_3 : Int) (a1_4 : Bool) (a1_5 : Int) (a1_6 : Int) : Option ((List (S39))) := (some (([] : List (S39)) : List (S39))).bind fun y117 => (if y117.length + l0.length < 2513169434916 then ((some (y117 ++ l0 : List (S39))).bind fun y120 => ((some (([(⟨a1_0, a1_1, (⟨a1_2, a1_3, a1_4, a1_5⟩ : S37), a1_6⟩ : S39)] : List (S39)) : List (S39))).bind fun y123 => (if y120.length + y123.length < 2513169434916 then (some (y120 ++ y123)) else (none)))) else (none))
set_option maxHeartbeats 8000000 in
set_option maxRecDepth 100000 in
theorem gantletref09_and.calls (A0 : Option Addr) (c0 : Nat) (l0 : List (S39)) (a1_0 : Int) (a1_1 : Int) (a1_2 : Int) (a1_3 : Int) (a1_4 : Bool) (a1_5 : Int) (a1_6 : Int) (r : List (S39)) (w : World) (hr0 : Kd.C k39 w A0 l0.length l0) (hc0 : l0.length ≤ c0) (h : gantletref09_and.f l0 a1_0 a1_1 a1_2 a1_3 a1_4 a1_5 a1_6 = some r) :
 Calls Try.prog 28 #[.slice A0 l0.length c0, .agg #[.int .i64 a1_0, .int .i64 a1_1, .int .i64 a1_2, .int .i64 a1_3, .bool a1_4, .int .i64 a1_5, .int .u8 a1_6]] w fun e w' => ∃ v0_ : Value, e = .returned (v0_) ∧ Kd.R k39 39 w' w.heap.size (fun _ => True) v0_ r ∧ Below w.heap.size w w' := by
 have hu39 := Try.underlying39
 have HR0 := Aside0.mk hr0
 have HC0 := Aside0.mk hc0
 clear hr0 hc0
 have HB := Aside0.mk (Below.refl w.heap.size w)
 have H : ((some (([] : List (S39)) : List (S39))).bind fun y117 => (if y117.length + l0.length < 2513169434916 then ((some (y117 ++ l0 : List (S39))).bind fun y120 => ((some (([(⟨a1_0, a1_1, (⟨a1_2, a1_3, a1_4, a1_5⟩ : S37), a1_6⟩ : S39)] : List (S39)) : List (S39))).bind fun y123 => (if y120.length + y123.length < 2513169434916 then (some (y120 ++ y123)) else (none)))) else (none))) = some r := h
 clear h
 obtain ⟨y117, hy117⟩ : ∃ y_ : List (S39), y_ = (([] : List (S39))) := ⟨_, rfl⟩
 replace H : (if y117.length + l0.length < 2513169434916 then ((some (y117 ++ l0 : List (S39))).bind fun y120 => ((some (([(⟨a1_0, a1_1, (⟨a1_2, a1_3, a1_4, a1_5⟩ : S37), a1_6⟩ : S39)] : List (S39)) : List (S39))).bind fun y123 => (if y120.length + y123.length < 2513169434916 then (some (y120 ++ y123)) else (none)))) else (none)) = some r := by first | (rw [hy117]; with_reducible exact H) | (have H2_ := (Option.bind_some _ _).symm.trans H; rw [hy117]; with_reducible exact H2_) | (have H2_ := (Option.bind_some _ _).symm.trans H; with_reducible exact H2_) | with_reducible exact H | (rw [hy117]; exact H) | exact H
 have Ny117 := Aside0.mk hy117
 clear hy117
 by_cases c3 : y117.length + l0.length < 2513169434916
 ·
  rw [if_pos c3] at H
  have LMc3 := Aside0.mk c3
  clear c3
  obtain ⟨y120, hy120⟩ : ∃ y_ : List (S39), y_ = (y117 ++ l0) := ⟨_, rfl⟩
  replace H : ((some (([(⟨a1_0, a1_1, (⟨a1_2, a1_3, a1_4, a1_5⟩ : S37), a1_6⟩ : S39)] : List (S39)) : List (S39))).bind fun y123 => (if y120.length + y123.length < 2513169434916 then (some (y120 ++ y123)) else (none))) = some r := by first | (rw [hy120]; with_reducible exact H) | (have H2_ := (Option.bind_some _ _).symm.trans H; rw [hy120]; with_reducible exact H2_) | (have H2_ := (Option.bind_some _ _).symm.trans H; with_reducible exact H2_) | with_reducible exact H | (rw [hy120]; exact H) | exact H
  have Ny120 := Aside0.mk hy120
  clear hy120
  obtain ⟨y123, hy123⟩ : ∃ y_ : List (S39), y_ = (([(⟨a1_0, a1_1, (⟨a1_2, a1_3, a1_4, a1_5⟩ : S37), a1_6⟩ : S39)] : List (S39))) := ⟨_, rfl⟩
  replace H : (if y120.length + y123.length < 2513169434916 then (some (y120 ++ y123)) else (none)) = some r := by first | (rw [hy123]; with_reducible exact H) | (have H2_ := (Option.bind_some _ _).symm.trans H; rw [hy123]; with_reducible exact H2_) | (have H2_ := (Option.bind_some _ _).symm.trans H; with_reducible exact H2_) | with_reducible exact H | (rw [hy123]; exact H) | exact H
  have Ny123 := Aside0.mk hy123
  clear hy123
  by_cases c4 : y120.length + y123.length < 2513169434916
  ·
   rw [if_pos c4] at H
   have LMc4 := Aside0.mk c4
   clear c4
   obtain ⟨y126, hy126⟩ : ∃ y_ : List (S39), y_ = (y120 ++ y123) := ⟨_, rfl⟩
   replace H : (some y126) = some r := by first | (rw [hy126]; with_reducible exact H) | (have H2_ := (Option.bind_some _ _).symm.trans H; rw [hy126]; with_reducible exact H2_) | (have H2_ := (Option.bind_some _ _).symm.trans H; with_reducible exact H2_) | with_reducible exact H | (rw [hy126]; exact H) | exact H
   have Ny126 := Aside0.mk hy126
   clear hy126
   obtain rfl := Option.some.inj H
   go_enter Try.func28, Try.ntmps28
   try go_wp2_with (first | ((with_reducible refine gate_dst (N := 3) rfl ?_); refine zzbx (N := 3) (cs := #[.int .i64 a1_0, .int .i64 a1_1, .int .i64 a1_2, .int .i64 a1_3, .bool a1_4, .int .i64 a1_5, .int .u8 a1_6]) (t := 39) ?_; intro gb116 hg w5 hbox hb; have n0_ := Aside0.mk (below_step zz2 hb); have n1_ := Aside0.mk (hbox); have n2_ := Aside0.mk ((by rw [hg]; exact (below_size zz2) : w.heap.size ≤ gb116)); have n3_ := n2_; clear HB; have HB := n0_; have BK116 := n1_; have GW116 := n2_; have GE116 := n3_; clear n0_ n1_ n2_ n3_; clear hb hbox hg))
   have n0_ := Aside0.mk (blk_drew BK116.out)
   have n1_ := Aside0.mk (below_drew1 HB.out)
   clear BK116
   clear HB
   have BK116 := n0_
   have HB := n1_
   clear n0_ n1_
   refine start_ (n := 7) (S := fun w' => w'.cell? ⟨gb116, 0, none⟩ = some (.int .i64 a1_0) ∧ w'.cell? ⟨gb116, 1, none⟩ = some (.int .i64 a1_1) ∧ w'.cell? ⟨gb116, 2, none⟩ = some (.int .i64 a1_2) ∧ w'.cell? ⟨gb116, 3, none⟩ = some (.int .i64 a1_3) ∧ w'.cell? ⟨gb116, 4, none⟩ = some (.bool a1_4) ∧ w'.cell? ⟨gb116, 5, none⟩ = some (.int .i64 a1_5) ∧ w'.cell? ⟨gb116, 6, none⟩ = some (.int .u8 a1_6)) (ds := []) #[false, false, false, false, false, false, false] zz8 rfl rfl ⟨(blk_cell BK116.out 0).trans rfl, (blk_cell BK116.out 1).trans rfl, (blk_cell BK116.out 2).trans rfl, (blk_cell BK116.out 3).trans rfl, (blk_cell BK116.out 4).trans rfl, (blk_cell BK116.out 5).trans rfl, (blk_cell BK116.out 6).trans rfl⟩ (fun hHeld => ?_)
   generalize w5.drew = w6 at BK116 HB hHeld ⊢
   refine pure_ (i := 1) (N := some 6) (v := ?_) (a' := ?_) #[false, true, false, false, false, false, false] rfl rfl zz8 (fun _ _ _ h => h) (Or.inl ⟨by rfl, ?_⟩) ?_ ?_
   rotate_left
   ·
    intro w'
    go_simp
    with_reducible rfl
   rotate_left
   ·
    simp only [Act.put, List.setIfInBounds_toArray, List.set_cons_zero, List.set_cons_succ, i64_w, i32_w]
    rfl
   refine take_ (i := 3) (N := some 8) (v := ?_) (a' := ?_) #[false, true, false, true, false, false, false] rfl rfl zz8 (fun _ _ _ h => h) (Or.inl ⟨by rfl, ?_⟩) hHeld ?_ ?_
   rotate_left
   ·
    rintro w' ⟨s0, s1, s2, s3, s4, s5, s6⟩
    go_simp
    with_reducible rfl
   rotate_left
   ·
    simp only [Act.put, List.setIfInBounds_toArray, List.set_cons_zero, List.set_cons_succ, i64_w, i32_w]
    rfl
   refine join_ (σ := Value × Value × Value) 2 #[true, true, true, true, true, false, false] (fun s_ => [(5, s_.1), (7, s_.2.1), (9, s_.2.2)]) (fun s_ w' => (w'.cell? ⟨gb116, 0, none⟩ = some (.int .i64 a1_0) ∧ w'.cell? ⟨gb116, 1, none⟩ = some (.int .i64 a1_1) ∧ w'.cell? ⟨gb116, 2, none⟩ = some (.int .i64 a1_2) ∧ w'.cell? ⟨gb116, 3, none⟩ = some (.int .i64 a1_3) ∧ w'.cell? ⟨gb116, 4, none⟩ = some (.bool a1_4) ∧ w'.cell? ⟨gb116, 5, none⟩ = some (.int .i64 a1_5) ∧ w'.cell? ⟨gb116, 6, none⟩ = some (.int .u8 a1_6)) ∧ (Kd.R k39 39 w' w.heap.size (fun k_ => some k_ ≠ (s_.2.2 : Value).ownBlock ∧ k_ ≠ gb116) s_.2.1 y120) ∧ (Kd.R k39 39 w' w.heap.size (fun k_ => some k_ ≠ (s_.2.1 : Value).ownBlock ∧ k_ ≠ gb116) s_.2.2 y123) ∧ (w'.heap[gb116]? = some (.cells #[.int .i64 a1_0, .int .i64 a1_1, .int .i64 a1_2, .int .i64 a1_3, .bool a1_4, .int .i64 a1_5, .int .u8 a1_6] 39 (0, 0))) ∧ (Below w.heap.size w w')) ?_ ?_
   rotate_left
   ·
    intro hCont
    refine two_ (i := 0) (j := 4) (Ni := some 5) (Nj := some 9) #[true, true, false, true, false, false, false] #[false, true, false, true, true, false, false] rfl rfl rfl rfl zz8 zz13 zz13 (fun K hK => ?_) (fun K hK => ?_)
    ·
     skip
     refine Kd.R_lit_step k39 _ 39 ?hg (N := 5) ?hd (xs := ([] : List (S39))) (inner := []) (ok := fun _ => True) (okp := fun _ => True) ?hr ?hp (fun _ hk => hk) trivial (Below.refl _ _) (Nat.le_refl _) zz29 ?_; (case hd => rfl); (case hg => rfl); (case hr => first | (go_simp; done) | (go_simp; rfl)); (case hp => exact (Reps.none _ _))
     intro v118 w7 ho8 hb hg_ hnew_
     clear hg_ hnew_
     (first | rw [← Ny117.out] at ho8 | (simp only [Int.reduceToNat] at ho8; rw [← Ny117.out] at ho8))
     have n0_ := Aside0.mk (Kd.R_lower (Kd.R_newB ho8 (g := gb116) (o := .cells #[.int .i64 a1_0, .int .i64 a1_1, .int .i64 a1_2, .int .i64 a1_3, .bool a1_4, .int .i64 a1_5, .int .u8 a1_6] 39 (0, 0)) zz15) (below_size zz7))
     have n1_ := Aside0.mk (blk_below (g := gb116) (o := .cells #[.int .i64 a1_0, .int .i64 a1_1, .int .i64 a1_2, .int .i64 a1_3, .bool a1_4, .int .i64 a1_5, .int .u8 a1_6] 39 (0, 0)) zz15 hb)
     have n2_ := Aside0.mk (below_step zz7 hb)
     clear BK116
     clear HB
     have HO119 := n0_
     have BK116 := n1_
     have HB := n2_
     clear n0_ n1_ n2_
     clear hb ho8
     refine hK.out _ _ ⟨(blk_cell BK116.out 0).trans rfl, (blk_cell BK116.out 1).trans rfl, (blk_cell BK116.out 2).trans rfl, (blk_cell BK116.out 3).trans rfl, (blk_cell BK116.out 4).trans rfl, (blk_cell BK116.out 5).trans rfl, (blk_cell BK116.out 6).trans rfl⟩ (fun hHeld => ?_)
     clear hK K
     refine norm_ (a' := ?_) ?_ ?_
     rotate_left
     ·
      show Act.put _ (some 5) _ = _
      simp only [Act.put, List.setIfInBounds_toArray, List.set_cons_zero, List.set_cons_succ, i64_w, i32_w]
      rfl
     refine two_ (i := 2) (j := 4) (Ni := some 7) (Nj := some 9) #[true, true, true, true, false, false, false] #[true, true, false, true, true, false, false] rfl rfl rfl rfl zz8 zz13 zz13 (fun K hK => ?_) (fun K hK => ?_)
     ·
      skip
      refine Kd.R_append_rows_step k39 (w0 := w) w.heap.size (by rfl) (.tmp 5) (.tmp 6) 31 39 (.agg #[(.int .i64 0), (.int .i64 0), (.int .i64 0), (.int .i64 0), (.bool false), (.int .i64 0), (.int .u8 0)]) 56 rfl Try.underlying31 info39 rfl zz13 zz3 v118 y117 l0 _ _ _ (fun k_ => k_ ≠ gb116) (fun _ => False) rfl rfl ?aO ?aR (fun _ _ h => h) (fun _ h => h.elim) ?aF ?aB ?aS ?aL ?_
      (case aR => repeat (first | exact (Kd.C_below HR0.out HB.out) | (with_reducible refine Kd.C_alloc ?_ _) | (with_reducible refine Kd.C_drewN ?_ _) | (with_reducible refine Kd.C_drew ?_)))
      (case aB => exact zz7)
      (case aF => exact (fun k_ hk => Kd.freshB (g := gb116) (o := .cells #[.int .i64 a1_0, .int .i64 a1_1, .int .i64 a1_2, .int .i64 a1_3, .bool a1_4, .int .i64 a1_5, .int .u8 a1_6] 39 (0, 0)) zz15 k_ hk))
      (case aO => exact (by (with_reducible repeat (first | apply Kd.R_alloc | apply Kd.R_drewN | apply Kd.R_drew)); exact Kd.R_mono HO119.out (fun _ hk => hk.2)))
      (case aS => exact (below_size zz7))
      (case aL => have := LMc3.out; omega)
      intro v121 w9 ho hb hg hat
      rw [← Ny120.out] at ho
      have n0_ := Aside0.mk (blk_grown (g := gb116) (o := .cells #[.int .i64 a1_0, .int .i64 a1_1, .int .i64 a1_2, .int .i64 a1_3, .bool a1_4, .int .i64 a1_5, .int .u8 a1_6] 39 (0, 0)) zz15 hg (Kd.R_away HO119.out (fun _ hk => hk.2)))
      have n1_ := Aside0.mk (hb)
      have n2_ := Aside0.mk (ho)
      clear BK116
      clear HB
      clear HO119
      have BK116 := n0_
      have HB := n1_
      have HO122 := n2_
      clear n0_ n1_ n2_
      clear ho hb hg hat
      refine hK.out _ _ ⟨(blk_cell BK116.out 0).trans rfl, (blk_cell BK116.out 1).trans rfl, (blk_cell BK116.out 2).trans rfl, (blk_cell BK116.out 3).trans rfl, (blk_cell BK116.out 4).trans rfl, (blk_cell BK116.out 5).trans rfl, (blk_cell BK116.out 6).trans rfl⟩ (fun hHeld => ?_)
      clear hK K
      refine norm_ (a' := ?_) ?_ ?_
      rotate_left
      ·
       show Act.put _ (some 7) _ = _
       simp only [Act.put, List.setIfInBounds_toArray, List.set_cons_zero, List.set_cons_succ, i64_w, i32_w]
       rfl
      refine one_ (i := 4) (N := some 9) #[true, true, true, true, true, false, false] rfl rfl zz8 zz13 (fun K hK => ?_)
      refine Kd.R_lit_step k39 _ 39 ?hg (N := 9) ?hd (xs := ([(⟨a1_0, a1_1, (⟨a1_2, a1_3, a1_4, a1_5⟩ : S37), a1_6⟩ : S39)] : List (S39))) (inner := [.int .i64 a1_0, .int .i64 a1_1, .int .i64 a1_2, .int .i64 a1_3, .bool a1_4, .int .i64 a1_5, .int .u8 a1_6]) (ok := fun _ => True) (okp := fun _ => True) ?hr ?hp (fun _ hk => hk) trivial (Below.refl _ _) (Nat.le_refl _) zz29 ?_; (case hd => rfl); (case hg => rfl); (case hr => first | (go_simp; done) | (go_simp; rfl)); (case hp => exact (Reps.c7 (show Kd.M k39 _ _ _ (⟨a1_0, a1_1, (⟨a1_2, a1_3, a1_4, a1_5⟩ : S37), a1_6⟩ : S39) [.int .i64 a1_0, .int .i64 a1_1, .int .i64 a1_2, .int .i64 a1_3, .bool a1_4, .int .i64 a1_5, .int .u8 a1_6] from (k39_mkM _ _ _ (⟨a1_0, a1_1, (⟨a1_2, a1_3, a1_4, a1_5⟩ : S37), a1_6⟩ : S39) )) (Reps.none _ _)))
      intro v124 w10 ho11 hb hg_ hnew_
      clear hg_ hnew_
      (first | rw [← Ny123.out] at ho11 | (simp only [Int.reduceToNat] at ho11; rw [← Ny123.out] at ho11))
      have n0_ := Aside0.mk (Kd.R_elder' zz39 (Kd.R_base ho11) hb)
      have n1_ := Aside0.mk (Kd.R_lower (Kd.R_newB (Kd.R_new' ho11 (Kd.R_lt zz39)) (g := gb116) (o := .cells #[.int .i64 a1_0, .int .i64 a1_1, .int .i64 a1_2, .int .i64 a1_3, .bool a1_4, .int .i64 a1_5, .int .u8 a1_6] 39 (0, 0)) zz15) (below_size zz7))
      have n2_ := Aside0.mk (blk_below (g := gb116) (o := .cells #[.int .i64 a1_0, .int .i64 a1_1, .int .i64 a1_2, .int .i64 a1_3, .bool a1_4, .int .i64 a1_5, .int .u8 a1_6] 39 (0, 0)) zz15 hb)
      have n3_ := Aside0.mk (below_step zz7 hb)
      clear HO122
      clear BK116
      clear HB
      have HO122 := n0_
      have HO125 := n1_
      have BK116 := n2_
      have HB := n3_
      clear n0_ n1_ n2_ n3_
      clear hb ho11
      refine hK.out _ _ ⟨(blk_cell BK116.out 0).trans rfl, (blk_cell BK116.out 1).trans rfl, (blk_cell BK116.out 2).trans rfl, (blk_cell BK116.out 3).trans rfl, (blk_cell BK116.out 4).trans rfl, (blk_cell BK116.out 5).trans rfl, (blk_cell BK116.out 6).trans rfl⟩ (fun hHeld => ?_)
      clear hK K
      refine norm_ (a' := ?_) ?_ ?_
      rotate_left
      ·
       show Act.put _ (some 9) _ = _
       simp only [Act.put, List.setIfInBounds_toArray, List.set_cons_zero, List.set_cons_succ, i64_w, i32_w]
       rfl
      exact norm_ (by simp only [putAll, Act.put, List.setIfInBounds_toArray, List.set_cons_zero, List.set_cons_succ]) (hCont (v118, v121, v124) _ ⟨hHeld, (by (with_reducible repeat (first | apply Kd.R_alloc | apply Kd.R_drewN | apply Kd.R_drew)); exact Kd.R_mono HO122.out (fun _ hk => ⟨hk.2, hk.1⟩)), (by (with_reducible repeat (first | apply Kd.R_alloc | apply Kd.R_drewN | apply Kd.R_drew)); exact Kd.R_mono HO125.out (fun _ hk => ⟨hk.1.2, hk.2⟩)), zz15, zz7⟩)
     ·
      skip
      refine Kd.R_lit_step k39 _ 39 ?hg (N := 9) ?hd (xs := ([(⟨a1_0, a1_1, (⟨a1_2, a1_3, a1_4, a1_5⟩ : S37), a1_6⟩ : S39)] : List (S39))) (inner := [.int .i64 a1_0, .int .i64 a1_1, .int .i64 a1_2, .int .i64 a1_3, .bool a1_4, .int .i64 a1_5, .int .u8 a1_6]) (ok := fun _ => True) (okp := fun _ => True) ?hr ?hp (fun _ hk => hk) trivial (Below.refl _ _) (Nat.le_refl _) zz29 ?_; (case hd => rfl); (case hg => rfl); (case hr => first | (go_simp; done) | (go_simp; rfl)); (case hp => exact (Reps.c7 (show Kd.M k39 _ _ _ (⟨a1_0, a1_1, (⟨a1_2, a1_3, a1_4, a1_5⟩ : S37), a1_6⟩ : S39) [.int .i64 a1_0, .int .i64 a1_1, .int .i64 a1_2, .int .i64 a1_3, .bool a1_4, .int .i64 a1_5, .int .u8 a1_6] from (k39_mkM _ _ _ (⟨a1_0, a1_1, (⟨a1_2, a1_3, a1_4, a1_5⟩ : S37), a1_6⟩ : S39) )) (Reps.none _ _)))
      intro v124 w9 ho10 hb hg_ hnew_
      clear hg_ hnew_
      (first | rw [← Ny123.out] at ho10 | (simp only [Int.reduceToNat] at ho10; rw [← Ny123.out] at ho10))
      have n0_ := Aside0.mk (Kd.R_elder' (by (with_reducible repeat (first | apply Kd.R_alloc | apply Kd.R_drewN | apply Kd.R_drew)); exact HO119.out) (Kd.R_base ho10) hb)
      have n1_ := Aside0.mk (Kd.R_lower (Kd.R_newB (Kd.R_new' ho10 (Kd.R_lt (by (with_reducible repeat (first | apply Kd.R_alloc | apply Kd.R_drewN | apply Kd.R_drew)); exact HO119.out))) (g := gb116) (o := .cells #[.int .i64 a1_0, .int .i64 a1_1, .int .i64 a1_2, .int .i64 a1_3, .bool a1_4, .int .i64 a1_5, .int .u8 a1_6] 39 (0, 0)) zz15) (below_size zz7))
      have n2_ := Aside0.mk (blk_below (g := gb116) (o := .cells #[.int .i64 a1_0, .int .i64 a1_1, .int .i64 a1_2, .int .i64 a1_3, .bool a1_4, .int .i64 a1_5, .int .u8 a1_6] 39 (0, 0)) zz15 hb)
      have n3_ := Aside0.mk (below_step zz7 hb)
      clear HO119
      clear BK116
      clear HB
      have HO119 := n0_
      have HO125 := n1_
      have BK116 := n2_
      have HB := n3_
      clear n0_ n1_ n2_ n3_
      clear hb ho10
      refine hK.out _ _ ⟨(blk_cell BK116.out 0).trans rfl, (blk_cell BK116.out 1).trans rfl, (blk_cell BK116.out 2).trans rfl, (blk_cell BK116.out 3).trans rfl, (blk_cell BK116.out 4).trans rfl, (blk_cell BK116.out 5).trans rfl, (blk_cell BK116.out 6).trans rfl⟩ (fun hHeld => ?_)
      clear hK K
      refine norm_ (a' := ?_) ?_ ?_
      rotate_left
      ·
       show Act.put _ (some 9) _ = _
       simp only [Act.put, List.setIfInBounds_toArray, List.set_cons_zero, List.set_cons_succ, i64_w, i32_w]
       rfl
      refine one_ (i := 2) (N := some 7) #[true, true, true, true, true, false, false] rfl rfl zz8 zz13 (fun K hK => ?_)
      refine Kd.R_append_rows_step k39 (w0 := w) w.heap.size (by rfl) (.tmp 5) (.tmp 6) 31 39 (.agg #[(.int .i64 0), (.int .i64 0), (.int .i64 0), (.int .i64 0), (.bool false), (.int .i64 0), (.int .u8 0)]) 56 rfl Try.underlying31 info39 rfl zz13 zz3 v118 y117 l0 _ _ _ (fun k_ => some k_ ≠ (v124 : Value).ownBlock ∧ k_ ≠ gb116) (fun _ => False) rfl rfl ?aO ?aR (fun _ _ h => h) (fun _ h => h.elim) ?aF ?aB ?aS ?aL ?_
      (case aR => repeat (first | exact (Kd.C_below HR0.out HB.out) | (with_reducible refine Kd.C_alloc ?_ _) | (with_reducible refine Kd.C_drewN ?_ _) | (with_reducible refine Kd.C_drew ?_)))
      (case aB => exact zz7)
      (case aF => exact (fun k_ hk => ⟨Kd.fresh' (Kd.R_lt zz40) k_ hk, Kd.freshB (g := gb116) (o := .cells #[.int .i64 a1_0, .int .i64 a1_1, .int .i64 a1_2, .int .i64 a1_3, .bool a1_4, .int .i64 a1_5, .int .u8 a1_6] 39 (0, 0)) zz15 k_ hk⟩))
      (case aO => exact (by (with_reducible repeat (first | apply Kd.R_alloc | apply Kd.R_drewN | apply Kd.R_drew)); exact Kd.R_mono HO119.out (fun _ hk => ⟨hk.2, hk.1.2⟩)))
      (case aS => exact (below_size zz7))
      (case aL => have := LMc3.out; omega)
      intro v121 w11 ho hb hg hat
      rw [← Ny120.out] at ho
      have n0_ := Aside0.mk (blk_grown (g := gb116) (o := .cells #[.int .i64 a1_0, .int .i64 a1_1, .int .i64 a1_2, .int .i64 a1_3, .bool a1_4, .int .i64 a1_5, .int .u8 a1_6] 39 (0, 0)) zz15 hg (Kd.R_away HO119.out (fun _ hk => hk.1.2)))
      have n1_ := Aside0.mk (Kd.R_after (ok := (fun k_ => k_ ≠ gb116)) (by (with_reducible repeat (first | apply Kd.R_alloc | apply Kd.R_drewN | apply Kd.R_drew)); exact Kd.R_mono HO125.out (fun _ hk => ⟨hk.2, hk.1.2⟩)) hg hat)
      have n2_ := Aside0.mk (hb)
      have n3_ := Aside0.mk (ho)
      clear BK116
      clear HO125
      clear HB
      clear HO119
      have BK116 := n0_
      have HO125 := n1_
      have HB := n2_
      have HO122 := n3_
      clear n0_ n1_ n2_ n3_
      clear ho hb hg hat
      refine hK.out _ _ ⟨(blk_cell BK116.out 0).trans rfl, (blk_cell BK116.out 1).trans rfl, (blk_cell BK116.out 2).trans rfl, (blk_cell BK116.out 3).trans rfl, (blk_cell BK116.out 4).trans rfl, (blk_cell BK116.out 5).trans rfl, (blk_cell BK116.out 6).trans rfl⟩ (fun hHeld => ?_)
      clear hK K
      refine norm_ (a' := ?_) ?_ ?_
      rotate_left
      ·
       show Act.put _ (some 7) _ = _
       simp only [Act.put, List.setIfInBounds_toArray, List.set_cons_zero, List.set_cons_succ, i64_w, i32_w]
       rfl
      exact norm_ (by simp only [putAll, Act.put, List.setIfInBounds_toArray, List.set_cons_zero, List.set_cons_succ]) (hCont (v118, v121, v124) _ ⟨hHeld, zz39, zz53, zz15, zz7⟩)
    ·
     skip
     refine Kd.R_lit_step k39 _ 39 ?hg (N := 9) ?hd (xs := ([(⟨a1_0, a1_1, (⟨a1_2, a1_3, a1_4, a1_5⟩ : S37), a1_6⟩ : S39)] : List (S39))) (inner := [.int .i64 a1_0, .int .i64 a1_1, .int .i64 a1_2, .int .i64 a1_3, .bool a1_4, .int .i64 a1_5, .int .u8 a1_6]) (ok := fun _ => True) (okp := fun _ => True) ?hr ?hp (fun _ hk => hk) trivial (Below.refl _ _) (Nat.le_refl _) zz29 ?_; (case hd => rfl); (case hg => rfl); (case hr => first | (go_simp; done) | (go_simp; rfl)); (case hp => exact (Reps.c7 (show Kd.M k39 _ _ _ (⟨a1_0, a1_1, (⟨a1_2, a1_3, a1_4, a1_5⟩ : S37), a1_6⟩ : S39) [.int .i64 a1_0, .int .i64 a1_1, .int .i64 a1_2, .int .i64 a1_3, .bool a1_4, .int .i64 a1_5, .int .u8 a1_6] from (k39_mkM _ _ _ (⟨a1_0, a1_1, (⟨a1_2, a1_3, a1_4, a1_5⟩ : S37), a1_6⟩ : S39) )) (Reps.none _ _)))
     intro v124 w7 ho8 hb hg_ hnew_
     clear hg_ hnew_
     (first | rw [← Ny123.out] at ho8 | (simp only [Int.reduceToNat] at ho8; rw [← Ny123.out] at ho8))
     have n0_ := Aside0.mk (Kd.R_lower (Kd.R_newB ho8 (g := gb116) (o := .cells #[.int .i64 a1_0, .int .i64 a1_1, .int .i64 a1_2, .int .i64 a1_3, .bool a1_4, .int .i64 a1_5, .int .u8 a1_6] 39 (0, 0)) zz15) (below_size zz7))
     have n1_ := Aside0.mk (blk_below (g := gb116) (o := .cells #[.int .i64 a1_0, .int .i64 a1_1, .int .i64 a1_2, .int .i64 a1_3, .bool a1_4, .int .i64 a1_5, .int .u8 a1_6] 39 (0, 0)) zz15 hb)
     have n2_ := Aside0.mk (below_step zz7 hb)
     clear BK116
     clear HB
     have HO125 := n0_
     have BK116 := n1_
     have HB := n2_
     clear n0_ n1_ n2_
     clear hb ho8
     refine hK.out _ _ ⟨(blk_cell BK116.out 0).trans rfl, (blk_cell BK116.out 1).trans rfl, (blk_cell BK116.out 2).trans rfl, (blk_cell BK116.out 3).trans rfl, (blk_cell BK116.out 4).trans rfl, (blk_cell BK116.out 5).trans rfl, (blk_cell BK116.out 6).trans rfl⟩ (fun hHeld => ?_)
     clear hK K
     refine norm_ (a' := ?_) ?_ ?_
     rotate_left
     ·
      show Act.put _ (some 9) _ = _
      simp only [Act.put, List.setIfInBounds_toArray, List.set_cons_zero, List.set_cons_succ, i64_w, i32_w]
      rfl
     refine one_ (i := 0) (N := some 5) #[true, true, false, true, true, false, false] rfl rfl zz8 zz13 (fun K hK => ?_)
     refine Kd.R_lit_step k39 _ 39 ?hg (N := 5) ?hd (xs := ([] : List (S39))) (inner := []) (ok := fun _ => True) (okp := fun _ => True) ?hr ?hp (fun _ hk => hk) trivial (Below.refl _ _) (Nat.le_refl _) zz29 ?_; (case hd => rfl); (case hg => rfl); (case hr => first | (go_simp; done) | (go_simp; rfl)); (case hp => exact (Reps.none _ _))
     intro v118 w9 ho10 hb hg_ hnew_
     clear hg_ hnew_
     (first | rw [← Ny117.out] at ho10 | (simp only [Int.reduceToNat] at ho10; rw [← Ny117.out] at ho10))
     have n0_ := Aside0.mk (Kd.R_elder' zz40 (Kd.R_base ho10) hb)
     have n1_ := Aside0.mk (Kd.R_lower (Kd.R_newB (Kd.R_new' ho10 (Kd.R_lt zz40)) (g := gb116) (o := .cells #[.int .i64 a1_0, .int .i64 a1_1, .int .i64 a1_2, .int .i64 a1_3, .bool a1_4, .int .i64 a1_5, .int .u8 a1_6] 39 (0, 0)) zz15) (below_size zz7))
     have n2_ := Aside0.mk (blk_below (g := gb116) (o := .cells #[.int .i64 a1_0, .int .i64 a1_1, .int .i64 a1_2, .int .i64 a1_3, .bool a1_4, .int .i64 a1_5, .int .u8 a1_6] 39 (0, 0)) zz15 hb)
     have n3_ := Aside0.mk (below_step zz7 hb)
     clear HO125
     clear BK116
     clear HB
     have HO125 := n0_
     have HO119 := n1_
     have BK116 := n2_
     have HB := n3_
     clear n0_ n1_ n2_ n3_
     clear hb ho10
     refine hK.out _ _ ⟨(blk_cell BK116.out 0).trans rfl, (blk_cell BK116.out 1).trans rfl, (blk_cell BK116.out 2).trans rfl, (blk_cell BK116.out 3).trans rfl, (blk_cell BK116.out 4).trans rfl, (blk_cell BK116.out 5).trans rfl, (blk_cell BK116.out 6).trans rfl⟩ (fun hHeld => ?_)
     clear hK K
     refine norm_ (a' := ?_) ?_ ?_
     rotate_left
     ·
      show Act.put _ (some 5) _ = _
      simp only [Act.put, List.setIfInBounds_toArray, List.set_cons_zero, List.set_cons_succ, i64_w, i32_w]
      rfl
     refine one_ (i := 2) (N := some 7) #[true, true, true, true, true, false, false] rfl rfl zz8 zz13 (fun K hK => ?_)
     refine Kd.R_append_rows_step k39 (w0 := w) w.heap.size (by rfl) (.tmp 5) (.tmp 6) 31 39 (.agg #[(.int .i64 0), (.int .i64 0), (.int .i64 0), (.int .i64 0), (.bool false), (.int .i64 0), (.int .u8 0)]) 56 rfl Try.underlying31 info39 rfl zz13 zz3 v118 y117 l0 _ _ _ (fun k_ => some k_ ≠ (v124 : Value).ownBlock ∧ k_ ≠ gb116) (fun _ => False) rfl rfl ?aO ?aR (fun _ _ h => h) (fun _ h => h.elim) ?aF ?aB ?aS ?aL ?_
     (case aR => repeat (first | exact (Kd.C_below HR0.out HB.out) | (with_reducible refine Kd.C_alloc ?_ _) | (with_reducible refine Kd.C_drewN ?_ _) | (with_reducible refine Kd.C_drew ?_)))
     (case aB => exact zz7)
     (case aF => exact (fun k_ hk => ⟨Kd.fresh' (Kd.R_lt zz40) k_ hk, Kd.freshB (g := gb116) (o := .cells #[.int .i64 a1_0, .int .i64 a1_1, .int .i64 a1_2, .int .i64 a1_3, .bool a1_4, .int .i64 a1_5, .int .u8 a1_6] 39 (0, 0)) zz15 k_ hk⟩))
     (case aO => exact (by (with_reducible repeat (first | apply Kd.R_alloc | apply Kd.R_drewN | apply Kd.R_drew)); exact Kd.R_mono HO119.out (fun _ hk => ⟨hk.1.2, hk.2⟩)))
     (case aS => exact (below_size zz7))
     (case aL => have := LMc3.out; omega)
     intro v121 w11 ho hb hg hat
     rw [← Ny120.out] at ho
     have n0_ := Aside0.mk (blk_grown (g := gb116) (o := .cells #[.int .i64 a1_0, .int .i64 a1_1, .int .i64 a1_2, .int .i64 a1_3, .bool a1_4, .int .i64 a1_5, .int .u8 a1_6] 39 (0, 0)) zz15 hg (Kd.R_away HO119.out (fun _ hk => hk.2)))
     have n1_ := Aside0.mk (Kd.R_after (ok := (fun k_ => k_ ≠ gb116)) (by (with_reducible repeat (first | apply Kd.R_alloc | apply Kd.R_drewN | apply Kd.R_drew)); exact Kd.R_mono HO125.out (fun _ hk => ⟨hk.1.2, hk.2⟩)) hg hat)
     have n2_ := Aside0.mk (hb)
     have n3_ := Aside0.mk (ho)
     clear BK116
     clear HO125
     clear HB
     clear HO119
     have BK116 := n0_
     have HO125 := n1_
     have HB := n2_
     have HO122 := n3_
     clear n0_ n1_ n2_ n3_
     clear ho hb hg hat
     refine hK.out _ _ ⟨(blk_cell BK116.out 0).trans rfl, (blk_cell BK116.out 1).trans rfl, (blk_cell BK116.out 2).trans rfl, (blk_cell BK116.out 3).trans rfl, (blk_cell BK116.out 4).trans rfl, (blk_cell BK116.out 5).trans rfl, (blk_cell BK116.out 6).trans rfl⟩ (fun hHeld => ?_)
     clear hK K
     refine norm_ (a' := ?_) ?_ ?_
     rotate_left
     ·
      show Act.put _ (some 7) _ = _
      simp only [Act.put, List.setIfInBounds_toArray, List.set_cons_zero, List.set_cons_succ, i64_w, i32_w]
      rfl
     exact norm_ (by simp only [putAll, Act.put, List.setIfInBounds_toArray, List.set_cons_zero, List.set_cons_succ]) (hCont (v118, v121, v124) _ ⟨hHeld, zz39, zz53, zz15, zz7⟩)
   rintro ⟨v118, v121, v124⟩ w12 ⟨hS_, h0_, h1_, h2_, h3_⟩
   have n0_ : Aside0 (Kd.R k39 39 w12 w.heap.size (fun k_ => some k_ ≠ (v124 : Value).ownBlock ∧ k_ ≠ gb116) v121 y120) := ⟨h0_⟩
   have n1_ : Aside0 (Kd.R k39 39 w12 w.heap.size (fun k_ => some k_ ≠ (v121 : Value).ownBlock ∧ k_ ≠ gb116) v124 y123) := ⟨h1_⟩
   have n2_ : Aside0 (w12.heap[gb116]? = some (.cells #[.int .i64 a1_0, .int .i64 a1_1, .int .i64 a1_2, .int .i64 a1_3, .bool a1_4, .int .i64 a1_5, .int .u8 a1_6] 39 (0, 0))) := ⟨h2_⟩
   have n3_ : Aside0 (Below w.heap.size w w12) := ⟨h3_⟩
   clear BK116
   clear HB
   clear h0_ h1_ h2_ h3_
   have HO122 := n0_
   have HO125 := n1_
   have BK116 := n2_
   have HB := n3_
   clear n0_ n1_ n2_ n3_
   have hHeld : w12.cell? ⟨gb116, 0, none⟩ = some (.int .i64 a1_0) ∧ w12.cell? ⟨gb116, 1, none⟩ = some (.int .i64 a1_1) ∧ w12.cell? ⟨gb116, 2, none⟩ = some (.int .i64 a1_2) ∧ w12.cell? ⟨gb116, 3, none⟩ = some (.int .i64 a1_3) ∧ w12.cell? ⟨gb116, 4, none⟩ = some (.bool a1_4) ∧ w12.cell? ⟨gb116, 5, none⟩ = some (.int .i64 a1_5) ∧ w12.cell? ⟨gb116, 6, none⟩ = some (.int .u8 a1_6) := hS_
   obtain ⟨Ao14, co14, eo14⟩ := Kd.R_slice HO125.out
   (first | subst eo14 | (injection eo14 with f1_ f2_ f3_; have f4_ := f1_.symm; have f5_ := f3_.symm; clear f1_ f2_ f3_; subst f4_; subst f5_))
   refine norm_ (a' := ?_) ?_ ?_
   rotate_left
   ·
    simp only [putAll, Act.put, List.setIfInBounds_toArray, List.set_cons_zero, List.set_cons_succ]
    rfl
   refine one_ (i := 5) (N := some 10) #[true, true, true, true, true, true, false] rfl rfl zz8 zz13 (fun K hK => ?_)
   refine Kd.R_append_rows_step k39 (w0 := w) w.heap.size (by rfl) (.tmp 7) (.tmp 9) 31 39 (.agg #[(.int .i64 0), (.int .i64 0), (.int .i64 0), (.int .i64 0), (.bool false), (.int .i64 0), (.int .u8 0)]) 56 rfl Try.underlying31 info39 rfl zz13 zz3 v121 y120 y123 _ _ _ (fun k_ => some k_ ≠ (.slice Ao14 y123.length co14 : Value).ownBlock ∧ k_ ≠ gb116) (fun _ => False) rfl rfl ?aO ?aR (fun _ _ h => h) (fun _ h => h.elim) ?aF ?aB ?aS ?aL ?_
   (case aR => repeat (first | exact (Kd.R_reads' HO125.out).2.2 | (with_reducible refine Kd.C_alloc ?_ _) | (with_reducible refine Kd.C_drewN ?_ _) | (with_reducible refine Kd.C_drew ?_)))
   (case aB => exact zz7)
   (case aF => exact (fun k_ hk => ⟨Kd.fresh' (Kd.R_lt zz40) k_ hk, Kd.freshB (g := gb116) (o := .cells #[.int .i64 a1_0, .int .i64 a1_1, .int .i64 a1_2, .int .i64 a1_3, .bool a1_4, .int .i64 a1_5, .int .u8 a1_6] 39 (0, 0)) zz15 k_ hk⟩))
   (case aO => exact zz39)
   (case aS => exact (below_size zz7))
   (case aL => have := LMc4.out; omega)
   intro v127 w13 ho hb hg hat
   rw [← Ny126.out] at ho
   have n0_ := Aside0.mk (blk_grown (g := gb116) (o := .cells #[.int .i64 a1_0, .int .i64 a1_1, .int .i64 a1_2, .int .i64 a1_3, .bool a1_4, .int .i64 a1_5, .int .u8 a1_6] 39 (0, 0)) zz15 hg (Kd.R_away HO122.out (fun _ hk => hk.2)))
   have n1_ := Aside0.mk (Kd.R_after (ok := (fun k_ => k_ ≠ gb116)) zz53 hg hat)
   have n2_ := Aside0.mk (hb)
   have n3_ := Aside0.mk (ho)
   clear BK116
   clear HO125
   clear HB
   clear HO122
   have BK116 := n0_
   have HO125 := n1_
   have HB := n2_
   have HO128 := n3_
   clear n0_ n1_ n2_ n3_
   clear ho hb hg hat
   refine hK.out _ _ ⟨(blk_cell BK116.out 0).trans rfl, (blk_cell BK116.out 1).trans rfl, (blk_cell BK116.out 2).trans rfl, (blk_cell BK116.out 3).trans rfl, (blk_cell BK116.out 4).trans rfl, (blk_cell BK116.out 5).trans rfl, (blk_cell BK116.out 6).trans rfl⟩ (fun hHeld => ?_)
   clear hK K
   refine norm_ (a' := ?_) ?_ ?_
   rotate_left
   ·
    show Act.put _ (some 10) _ = _
    simp only [Act.put, List.setIfInBounds_toArray, List.set_cons_zero, List.set_cons_succ, i64_w, i32_w]
    rfl
   refine pure_ (i := 6) (N := some 4) (v := ?_) (a' := ?_) #[true, true, true, true, true, true, true] rfl rfl zz8 (fun _ _ _ h => h) (Or.inl ⟨by rfl, ?_⟩) ?_ ?_
   rotate_left
   ·
    intro w'
    go_simp
    with_reducible rfl
   rotate_left
   ·
    simp only [Act.put, List.setIfInBounds_toArray, List.set_cons_zero, List.set_cons_succ, i64_w, i32_w]
    rfl
   refine done_ zz8 ?_
   try go_wp2
   go_ret
   exact ⟨_, zz6, by (with_reducible repeat (first | apply Kd.R_alloc | apply Kd.R_drewN | apply Kd.R_drew)); exact Kd.R_mono HO128.out (fun _ hk => trivial), zz7⟩
  ·
   rw [if_neg c4] at H
   exact absurd H zz29
 ·
  rw [if_neg c3] at H
  exact absurd H zz29
end Go.Proofs.Ytpfconocipmcjaa.PC
namespace Go.Proofs.Ytpfconocipmcjaa.PC
open RowKit YtpfconocipmcjaaW.PrintWords YtpfconocipmcjaaW.PrintLast YtpfconocipmcjaaW.PrintMore
attribute [local go_sem] max2_int min2_int max_two min_two max_three min_three max_four min_four
set_option linter.unusedVariables false
set_option linter.unusedSimpArgs false
mutual
def gantletref05_Get.j0 : Nat → ByteArray → Int → Bool → Int → Int → Bool → Int → Option (Int × Int × Bool × Int × Int × Int)
 | 0, _, _, _, _, _, _, _ => none
 | k + 1, x0, x1, x21, x107000, x107001, x107002, x107003 => if x21 = true then (some (x107000, x107001, x107002, x107003, 0, 1)) else (if x1 = (x0.size : Int) then (some (x107000, x107001, x107002, x107003, x1, 2)) else (if 0 ≤ x1 then (if x1 < (x0.size : Int) then (if (Int.tmod (wrap64 (bt x0 x1)) 32) = 31 then (gantletref05_Get.l0 k x0 x1 0 (wrap64 (x1 + 1)) x107000 x107001 x107002 x107003 (wrap64 (Int.tdiv (wrap64 (bt x0 x1)) 64)) (Int.tmod (wrap64 (bt x0 x1)) 32) ((Int.tmod (wrap64 (Int.tdiv (wrap64 (bt x0 x1)) 32)) 2) == 1) 0) else (some (wrap64 (Int.tdiv (wrap64 (bt x0 x1)) 64), Int.tmod (wrap64 (bt x0 x1)) 32, ((Int.tmod (wrap64 (Int.tdiv (wrap64 (bt x0 x1)) 32)) 2) == 1), 0, wrap64 (x1 + 1), 0))) else (none)) else (none)))
def gantletref05_Get.l0 : Nat → ByteArray → Int → Int → Int → Int → Int → Bool → Int → Int → Int → Bool → Int → Option (Int × Int × Bool × Int × Int × Int)
 | 0, _, _, _, _, _, _, _, _, _, _, _, _ => none
 | k + 1, x0, x1, x10, x11, x107000, x107001, x107002, x107003, x108000, x108001, x108002, x108003 => if x11 < (x0.size : Int) then (if 0 ≤ x11 then (if x11 = (wrap64 (x1 + 1)) then (gantletref05_Get.j2 k x0 x1 x10 x11 (wrap64 (bt x0 x11)) ((wrap64 (bt x0 x11)) == 128) x107000 x107001 x107002 x107003 x108000 x108001 x108002 x108003) else (gantletref05_Get.j2 k x0 x1 x10 x11 (wrap64 (bt x0 x11)) false x107000 x107001 x107002 x107003 x108000 x108001 x108002 x108003)) else (none)) else (some (x107000, x107001, x107002, x107003, (x0.size : Int), 2))
def gantletref05_Get.j2 : Nat → ByteArray → Int → Int → Int → Int → Bool → Int → Int → Bool → Int → Int → Int → Bool → Int → Option (Int × Int × Bool × Int × Int × Int)
 | 0, _, _, _, _, _, _, _, _, _, _, _, _, _, _ => none
 | k + 1, x0, x1, x10, x11, x12, x67, x107000, x107001, x107002, x107003, x108000, x108001, x108002, x108003 => if x67 = true then (some (x107000, x107001, x107002, x107003, x11, 3)) else (if (wrap64 ((wrap64 (128 * x10)) + (Int.tmod x12 128))) > 268435455 then (some (x107000, x107001, x107002, x107003, x11, 3)) else (if x12 < 128 then (if (wrap64 ((wrap64 (128 * x10)) + (Int.tmod x12 128))) < 31 then (some (x107000, x107001, x107002, x107003, x11, 3)) else (some (x108000, wrap64 ((wrap64 (128 * x10)) + (Int.tmod x12 128)), x108002, x108003, wrap64 (x11 + 1), 0))) else (gantletref05_Get.l0 k x0 x1 (wrap64 ((wrap64 (128 * x10)) + (Int.tmod x12 128))) (wrap64 (x11 + 1)) x107000 x107001 x107002 x107003 x108000 x108001 x108002 x108003)))
end
def gantletref05_Get.f (k : Nat) (a0 : ByteArray) (a1 : Int) : Option (Int × Int × Bool × Int × Int × Int) := if a1 < 0 then (gantletref05_Get.j0 k a0 a1 true 0 0 false 0) else (gantletref05_Get.j0 k a0 a1 (decide (a1 > (a0.size : Int))) 0 0 false 0)
set_option maxHeartbeats 8000000 in
set_option maxRecDepth 100000 in
theorem gantletref05_Get.calls (k : Nat) (a0 : ByteArray) (a1 : Int) (r1 : Int) (r2 : Int) (r3 : Bool) (r4 : Int) (r5 : Int) (r6 : Int) (w : World) (h : gantletref05_Get.f k a0 a1 = some (r1, r2, r3, r4, r5, r6)) :
 Calls Try.prog 59 #[.string a0, .int .i64 a1] w fun e w' => e = .returned (.tuple #[.agg #[.int .i64 r1, .int .i64 r2, .bool r3, .int .i64 r4], .int .i64 r5, .int .i64 r6]) ∧ Below w.heap.size w w' := by
 have hu37 := Try.underlying37
 have HB := Aside0.mk (Below.refl w.heap.size w)
 have H : (if a1 < 0 then (gantletref05_Get.j0 k a0 a1 true 0 0 false 0) else (gantletref05_Get.j0 k a0 a1 (decide (a1 > (a0.size : Int))) 0 0 false 0)) = some (r1, r2, r3, r4, r5, r6) := h
 clear h
 have HC3 := Aside0.mk H
 clear H
 go_enter Try.func59, Try.ntmps59
 go_upto_region 2 with (first | ((with_reducible refine gate_dst (N := 4) rfl ?_); (try (refine gate_guard (by rfl) ?_; dsimp only)); refine zzbx (N := 4) (cs := #[.int .i64 0, .int .i64 0, .bool false, .int .i64 0]) (t := 37) ?_; intro gb105 hg w4 hbox hb; have n0_ := Aside0.mk (below_step zz2 hb); have n1_ := Aside0.mk (hbox); have n2_ := Aside0.mk ((by rw [hg]; exact (below_size zz2) : w.heap.size ≤ gb105)); have n3_ := n2_; clear HB; have HB := n0_; have BK105 := n1_; have GW105 := n2_; have GE105 := n3_; clear n0_ n1_ n2_ n3_; clear hb hbox hg) | ((with_reducible refine gate_dst (N := 7) rfl ?_); (try (refine gate_guard (by rfl) ?_; dsimp only)); refine zzbx (N := 7) (cs := #[.int .i64 0, .int .i64 0, .bool false, .int .i64 0]) (t := 37) ?_; intro gb106 hg w5 hbox hb; have n0_ := Aside0.mk (blk_below (g := gb105) (o := .cells #[.int .i64 0, .int .i64 0, .bool false, .int .i64 0] 37 (0, 0)) zz25 hb); have n1_ := Aside0.mk (below_step (by repeat (first | (with_reducible first | exact HB.out | apply below_alloc | apply pw_below_drewN | apply below_drew1 | refine below_set ?_ GE105.out) | exact HB.out)) hb); have n2_ := Aside0.mk (hbox); have n3_ := Aside0.mk ((by rw [hg]; exact (below_size (by repeat (first | (with_reducible first | exact HB.out | apply below_alloc | apply pw_below_drewN | apply below_drew1 | refine below_set ?_ GE105.out) | exact HB.out))) : w.heap.size ≤ gb106)); have n4_ := n3_; have n5_ := Aside0.mk ((zz55 : gb105 ≠ gb106)); have n6_ := Aside0.mk ((zz56 : gb106 ≠ gb105)); clear BK105; clear HB; have BK105 := n0_; have HB := n1_; have BK106 := n2_; have GW106 := n3_; have GE106 := n4_; have NB105_106 := n5_; have NB106_105 := n6_; clear n0_ n1_ n2_ n3_ n4_ n5_ n6_; clear hb hbox hg; have hnb6 := NB106_105.out; have hnc6 := NB105_106.out; have hcz7_0 : w5.cell? ⟨gb106, 0, none⟩ = some (.int .i64 0) := (blk_cell BK106.out 0).trans rfl; have hcz7_1 : w5.cell? ⟨gb106, 1, none⟩ = some (.int .i64 0) := (blk_cell BK106.out 1).trans rfl; have hcz7_2 : w5.cell? ⟨gb106, 2, none⟩ = some (.bool false) := (blk_cell BK106.out 2).trans rfl; have hcz7_3 : w5.cell? ⟨gb106, 3, none⟩ = some (.int .i64 0) := (blk_cell BK106.out 3).trans rfl; have hfz7_0 := blk_frozen BK106.out 0; have hfz7_1 := blk_frozen BK106.out 1; have hfz7_2 := blk_frozen BK106.out 2; have hfz7_3 := blk_frozen BK106.out 3))
 (try simp only [Act.put, List.setIfInBounds_toArray, List.set_cons_zero, List.set_cons_succ])
 go_cut [21] (fun v21 wc => ∃ (kq : Nat) (x21_2 : Bool), v21 = .bool x21_2 ∧ Aside0 (gantletref05_Get.j0 kq a0 a1 x21_2 0 0 false 0 = some (r1, r2, r3, r4, r5, r6)) ∧ Aside0 (kq ≤ k) ∧ Aside0 (wc.heap[gb105]? = some (.cells #[.int .i64 0, .int .i64 0, .bool false, .int .i64 0] 37 (0, 0))) ∧ Aside0 (wc.heap[gb106]? = some (.cells #[.int .i64 0, .int .i64 0, .bool false, .int .i64 0] 37 (0, 0))) ∧ Aside0 (Below w.heap.size w wc))
 case first =>
  have H := HC3.out
  clear HC3
  by_cases c8 : a1 < 0
  ·
   rw [if_pos c8] at H
   have c8b0 := decide_eq_true c8
   clear c8
   (first | rw [c8b0] | (simp only [i64_w, i32_w]; rw [c8b0]) | skip)
   have H' := Aside0.mk H
   clear H
   go_wp2
   go_meet
   case rel => exact ⟨_, (true), zz0, H', ⟨zz30⟩, ⟨by (with_reducible repeat (first | refine blk_drewN ?_ _ | refine blk_drew ?_ | refine blk_alloc ?_ _)); refine blk_far ?_ NB105_106.out _; (with_reducible repeat (first | refine blk_drewN ?_ _ | refine blk_drew ?_ | refine blk_alloc ?_ _)); refine blk_far ?_ NB105_106.out _; (with_reducible repeat (first | refine blk_drewN ?_ _ | refine blk_drew ?_ | refine blk_alloc ?_ _)); refine blk_far ?_ NB105_106.out _; (with_reducible repeat (first | refine blk_drewN ?_ _ | refine blk_drew ?_ | refine blk_alloc ?_ _)); refine blk_far ?_ NB105_106.out _; (with_reducible repeat (first | refine blk_drewN ?_ _ | refine blk_drew ?_ | refine blk_alloc ?_ _)); exact BK105.out⟩, ⟨by (with_reducible repeat (first | refine blk_drewN ?_ _ | refine blk_drew ?_ | refine blk_alloc ?_ _)); refine blk_put (cs := #[.int .i64 0, .int .i64 0, .bool false, .int .i64 0]) ?_ 3 _ rfl; (with_reducible repeat (first | refine blk_drewN ?_ _ | refine blk_drew ?_ | refine blk_alloc ?_ _)); refine blk_put (cs := #[.int .i64 0, .int .i64 0, .bool false, .int .i64 0]) ?_ 2 _ rfl; (with_reducible repeat (first | refine blk_drewN ?_ _ | refine blk_drew ?_ | refine blk_alloc ?_ _)); refine blk_put (cs := #[.int .i64 0, .int .i64 0, .bool false, .int .i64 0]) ?_ 1 _ rfl; (with_reducible repeat (first | refine blk_drewN ?_ _ | refine blk_drew ?_ | refine blk_alloc ?_ _)); refine blk_put (cs := #[.int .i64 0, .int .i64 0, .bool false, .int .i64 0]) ?_ 0 _ rfl; (with_reducible repeat (first | refine blk_drewN ?_ _ | refine blk_drew ?_ | refine blk_alloc ?_ _)); exact BK106.out⟩, ⟨zz24⟩⟩
  ·
   rw [if_neg c8] at H
   have c8b0 := decide_eq_false c8
   clear c8
   (first | rw [c8b0] | (simp only [i64_w, i32_w]; rw [c8b0]) | skip)
   have H' := Aside0.mk H
   clear H
   go_wp2
   go_meet
   case rel => exact ⟨_, (decide (a1 > (a0.size : Int))), zz0, H', ⟨zz30⟩, ⟨by (with_reducible repeat (first | refine blk_drewN ?_ _ | refine blk_drew ?_ | refine blk_alloc ?_ _)); refine blk_far ?_ NB105_106.out _; (with_reducible repeat (first | refine blk_drewN ?_ _ | refine blk_drew ?_ | refine blk_alloc ?_ _)); refine blk_far ?_ NB105_106.out _; (with_reducible repeat (first | refine blk_drewN ?_ _ | refine blk_drew ?_ | refine blk_alloc ?_ _)); refine blk_far ?_ NB105_106.out _; (with_reducible repeat (first | refine blk_drewN ?_ _ | refine blk_drew ?_ | refine blk_alloc ?_ _)); refine blk_far ?_ NB105_106.out _; (with_reducible repeat (first | refine blk_drewN ?_ _ | refine blk_drew ?_ | refine blk_alloc ?_ _)); exact BK105.out⟩, ⟨by (with_reducible repeat (first | refine blk_drewN ?_ _ | refine blk_drew ?_ | refine blk_alloc ?_ _)); refine blk_put (cs := #[.int .i64 0, .int .i64 0, .bool false, .int .i64 0]) ?_ 3 _ rfl; (with_reducible repeat (first | refine blk_drewN ?_ _ | refine blk_drew ?_ | refine blk_alloc ?_ _)); refine blk_put (cs := #[.int .i64 0, .int .i64 0, .bool false, .int .i64 0]) ?_ 2 _ rfl; (with_reducible repeat (first | refine blk_drewN ?_ _ | refine blk_drew ?_ | refine blk_alloc ?_ _)); refine blk_put (cs := #[.int .i64 0, .int .i64 0, .bool false, .int .i64 0]) ?_ 1 _ rfl; (with_reducible repeat (first | refine blk_drewN ?_ _ | refine blk_drew ?_ | refine blk_alloc ?_ _)); refine blk_put (cs := #[.int .i64 0, .int .i64 0, .bool false, .int .i64 0]) ?_ 0 _ rfl; (with_reducible repeat (first | refine blk_drewN ?_ _ | refine blk_drew ?_ | refine blk_alloc ?_ _)); exact BK106.out⟩, ⟨zz24⟩⟩
 case rest =>
  clear HC3
  try clear hcz7_0
  try clear hcz7_1
  try clear hcz7_2
  try clear hcz7_3
  try clear hfz7_0
  try clear hfz7_1
  try clear hfz7_2
  try clear hfz7_3
  obtain ⟨kq, x21_2, rfl, HA, HJ2, BK105, BK106, HB⟩ := hcut
  cases kq with
  | zero => exact absurd HA.out (by simp [gantletref05_Get.j0])
  | succ kj2 =>
    have H := HA.out
    clear HA
    simp only [gantletref05_Get.j0] at H
    by_cases c9 : x21_2 = true
    ·
     subst c9
     rw [if_pos rfl] at H
     simp only [Option.some.injEq, Prod.mk.injEq] at H
     obtain ⟨rfl, rfl, rfl, rfl, rfl, rfl⟩ := H
     have hnb10 := NB106_105.out
     have hnc10 := NB105_106.out
     have hcz11_0 : wc.cell? ⟨gb106, 0, none⟩ = some (.int .i64 0) := (blk_cell BK106.out 0).trans rfl
     have hcz11_1 : wc.cell? ⟨gb106, 1, none⟩ = some (.int .i64 0) := (blk_cell BK106.out 1).trans rfl
     have hcz11_2 : wc.cell? ⟨gb106, 2, none⟩ = some (.bool false) := (blk_cell BK106.out 2).trans rfl
     have hcz11_3 : wc.cell? ⟨gb106, 3, none⟩ = some (.int .i64 0) := (blk_cell BK106.out 3).trans rfl
     have hfz11_0 := blk_frozen BK106.out 0
     have hfz11_1 := blk_frozen BK106.out 1
     have hfz11_2 := blk_frozen BK106.out 2
     have hfz11_3 := blk_frozen BK106.out 3
     have hcz12_0 : wc.cell? ⟨gb105, 0, none⟩ = some (.int .i64 0) := (blk_cell BK105.out 0).trans rfl
     have hcz12_1 : wc.cell? ⟨gb105, 1, none⟩ = some (.int .i64 0) := (blk_cell BK105.out 1).trans rfl
     have hcz12_2 : wc.cell? ⟨gb105, 2, none⟩ = some (.bool false) := (blk_cell BK105.out 2).trans rfl
     have hcz12_3 : wc.cell? ⟨gb105, 3, none⟩ = some (.int .i64 0) := (blk_cell BK105.out 3).trans rfl
     have hfz12_0 := blk_frozen BK105.out 0
     have hfz12_1 := blk_frozen BK105.out 1
     have hfz12_2 := blk_frozen BK105.out 2
     have hfz12_3 := blk_frozen BK105.out 3
     go_wp2
     refine bodyPost_ret (results_ctt rfl _ _ gb105 37 #[.int .i64 0, .int .i64 0, .bool false, .int .i64 0] (0, 0) _ rfl (by (with_reducible repeat (first | refine blk_drewN ?_ _ | refine blk_drew ?_ | refine blk_alloc ?_ _)); refine blk_put (cs := #[.int .i64 0, .int .i64 0, .bool false, .int .i64 0]) ?_ 3 _ rfl; (with_reducible repeat (first | refine blk_drewN ?_ _ | refine blk_drew ?_ | refine blk_alloc ?_ _)); refine blk_put (cs := #[.int .i64 0, .int .i64 0, .bool false, .int .i64 0]) ?_ 2 _ rfl; (with_reducible repeat (first | refine blk_drewN ?_ _ | refine blk_drew ?_ | refine blk_alloc ?_ _)); refine blk_put (cs := #[.int .i64 0, .int .i64 0, .bool false, .int .i64 0]) ?_ 1 _ rfl; (with_reducible repeat (first | refine blk_drewN ?_ _ | refine blk_drew ?_ | refine blk_alloc ?_ _)); refine blk_put (cs := #[.int .i64 0, .int .i64 0, .bool false, .int .i64 0]) ?_ 0 _ rfl; (with_reducible repeat (first | refine blk_drewN ?_ _ | refine blk_drew ?_ | refine blk_alloc ?_ _)); exact BK105.out) Try.underlying37 rfl zz8) rfl ?_
     exact ⟨zz6, zz24⟩
    ·
     replace c9 := Bool.eq_false_iff.mpr c9
     subst c9
     rw [if_neg (show ¬ (false = true) by decide)] at H
     by_cases c13 : a1 = (a0.size : Int)
     ·
      rw [if_pos c13] at H
      have c13b0 := beq_iff_eq.mpr c13
      have c13b1 := bne_eq_false_iff_eq.mpr c13
      clear c13
      simp only [Option.some.injEq, Prod.mk.injEq] at H
      obtain ⟨rfl, rfl, rfl, rfl, rfl, rfl⟩ := H
      have hnb14 := NB106_105.out
      have hnc14 := NB105_106.out
      have hcz15_0 : wc.cell? ⟨gb106, 0, none⟩ = some (.int .i64 0) := (blk_cell BK106.out 0).trans rfl
      have hcz15_1 : wc.cell? ⟨gb106, 1, none⟩ = some (.int .i64 0) := (blk_cell BK106.out 1).trans rfl
      have hcz15_2 : wc.cell? ⟨gb106, 2, none⟩ = some (.bool false) := (blk_cell BK106.out 2).trans rfl
      have hcz15_3 : wc.cell? ⟨gb106, 3, none⟩ = some (.int .i64 0) := (blk_cell BK106.out 3).trans rfl
      have hfz15_0 := blk_frozen BK106.out 0
      have hfz15_1 := blk_frozen BK106.out 1
      have hfz15_2 := blk_frozen BK106.out 2
      have hfz15_3 := blk_frozen BK106.out 3
      have hcz16_0 : wc.cell? ⟨gb105, 0, none⟩ = some (.int .i64 0) := (blk_cell BK105.out 0).trans rfl
      have hcz16_1 : wc.cell? ⟨gb105, 1, none⟩ = some (.int .i64 0) := (blk_cell BK105.out 1).trans rfl
      have hcz16_2 : wc.cell? ⟨gb105, 2, none⟩ = some (.bool false) := (blk_cell BK105.out 2).trans rfl
      have hcz16_3 : wc.cell? ⟨gb105, 3, none⟩ = some (.int .i64 0) := (blk_cell BK105.out 3).trans rfl
      have hfz16_0 := blk_frozen BK105.out 0
      have hfz16_1 := blk_frozen BK105.out 1
      have hfz16_2 := blk_frozen BK105.out 2
      have hfz16_3 := blk_frozen BK105.out 3
      go_wp2
      refine bodyPost_ret (results_ctt rfl _ _ gb105 37 #[.int .i64 0, .int .i64 0, .bool false, .int .i64 0] (0, 0) _ rfl (by (with_reducible repeat (first | refine blk_drewN ?_ _ | refine blk_drew ?_ | refine blk_alloc ?_ _)); refine blk_put (cs := #[.int .i64 0, .int .i64 0, .bool false, .int .i64 0]) ?_ 3 _ rfl; (with_reducible repeat (first | refine blk_drewN ?_ _ | refine blk_drew ?_ | refine blk_alloc ?_ _)); refine blk_put (cs := #[.int .i64 0, .int .i64 0, .bool false, .int .i64 0]) ?_ 2 _ rfl; (with_reducible repeat (first | refine blk_drewN ?_ _ | refine blk_drew ?_ | refine blk_alloc ?_ _)); refine blk_put (cs := #[.int .i64 0, .int .i64 0, .bool false, .int .i64 0]) ?_ 1 _ rfl; (with_reducible repeat (first | refine blk_drewN ?_ _ | refine blk_drew ?_ | refine blk_alloc ?_ _)); refine blk_put (cs := #[.int .i64 0, .int .i64 0, .bool false, .int .i64 0]) ?_ 0 _ rfl; (with_reducible repeat (first | refine blk_drewN ?_ _ | refine blk_drew ?_ | refine blk_alloc ?_ _)); exact BK105.out) Try.underlying37 rfl zz8) rfl ?_
      exact ⟨zz6, zz24⟩
     ·
      rw [if_neg c13] at H
      have c13b0 := beq_eq_false_iff_ne.mpr c13
      have c13b1 := bne_iff_ne.mpr c13
      by_cases c17 : 0 ≤ a1
      ·
       rw [if_pos c17] at H
       have c17b0 := decide_eq_true c17
       clear c17
       by_cases c18 : a1 < (a0.size : Int)
       ·
        rw [if_pos c18] at H
        have c18b0 := decide_eq_true c18
        clear c18
        by_cases c20 : (Int.tmod (wrap64 (bt a0 a1)) 32) = 31
        ·
         rw [if_pos c20] at H
         have c20b0 := beq_iff_eq.mpr c20
         have c20b1 := bne_eq_false_iff_eq.mpr c20
         clear c20
         have H' := Aside0.mk H
         clear H
         have p19 : 0 ≤ (a1 : Int) := of_decide_eq_true zz4
         have q19 : a1 < (a0.size : Int) := of_decide_eq_true zz4
         have hx19 := bt_at a0 a1
         replace p19 := eq_true p19
         replace q19 := eq_true q19
         go_wp2_with (first | ((with_reducible refine gate_dst (N := 9) rfl ?_); (try (refine gate_guard (by rfl) ?_; dsimp only)); refine zzbx (N := 9) (cs := #[.int .i64 0, .int .i64 0, .bool false, .int .i64 0]) (t := 37) ?_; intro gb107 hg w21 hbox hb; have n0_ := Aside0.mk (blk_below (g := gb105) (o := .cells #[.int .i64 0, .int .i64 0, .bool false, .int .i64 0] 37 (0, 0)) zz25 hb); have n1_ := Aside0.mk (blk_below (g := gb106) (o := .cells #[.int .i64 0, .int .i64 0, .bool false, .int .i64 0] 37 (0, 0)) zz31 hb); have n2_ := Aside0.mk (below_step zz24 hb); have n3_ := Aside0.mk (hbox); have n4_ := Aside0.mk ((by rw [hg]; exact (below_size zz24) : w.heap.size ≤ gb107)); have n5_ := n4_; have n6_ := Aside0.mk ((zz55 : gb105 ≠ gb107)); have n7_ := Aside0.mk ((zz56 : gb107 ≠ gb105)); have n8_ := Aside0.mk ((by rw [hg]; exact Nat.ne_of_lt (blk_lt (g := gb106) (o := .cells #[.int .i64 0, .int .i64 0, .bool false, .int .i64 0] 37 (0, 0)) zz31) : gb106 ≠ gb107)); have n9_ := Aside0.mk ((by rw [hg]; exact Nat.ne_of_gt (blk_lt (g := gb106) (o := .cells #[.int .i64 0, .int .i64 0, .bool false, .int .i64 0] 37 (0, 0)) zz31) : gb107 ≠ gb106)); clear BK105; clear BK106; clear HB; have BK105 := n0_; have BK106 := n1_; have HB := n2_; have BK107 := n3_; have GW107 := n4_; have GE107 := n5_; have NB105_107 := n6_; have NB107_105 := n7_; have NB106_107 := n8_; have NB107_106 := n9_; clear n0_ n1_ n2_ n3_ n4_ n5_ n6_ n7_ n8_ n9_; clear hb hbox hg; have hnb22 := NB107_105.out; have hnc22 := NB105_107.out; have hnb23 := NB107_106.out; have hnc23 := NB106_107.out; have hcz24_0 : w21.cell? ⟨gb107, 0, none⟩ = some (.int .i64 0) := (blk_cell BK107.out 0).trans rfl; have hcz24_1 : w21.cell? ⟨gb107, 1, none⟩ = some (.int .i64 0) := (blk_cell BK107.out 1).trans rfl; have hcz24_2 : w21.cell? ⟨gb107, 2, none⟩ = some (.bool false) := (blk_cell BK107.out 2).trans rfl; have hcz24_3 : w21.cell? ⟨gb107, 3, none⟩ = some (.int .i64 0) := (blk_cell BK107.out 3).trans rfl; have hfz24_0 := blk_frozen BK107.out 0; have hfz24_1 := blk_frozen BK107.out 1; have hfz24_2 := blk_frozen BK107.out 2; have hfz24_3 := blk_frozen BK107.out 3))
         go_loopg [10, 11] kj2 (fun kq v10 v11 w' => ∃ (x10_2 : Int) (x11_2 : Int) (x106000_2 : Int) (x106001_2 : Int) (x106002_2 : Bool) (x106003_2 : Int) (x108001_2 : Int), v10 = .int .i64 x10_2 ∧ v11 = .int .i64 x11_2 ∧ Aside0 (gantletref05_Get.l0 kq a0 a1 x10_2 x11_2 0 0 false 0 (wrap64 (Int.tdiv (wrap64 (bt a0 a1)) 64)) x108001_2 ((Int.tmod (wrap64 (Int.tdiv (wrap64 (bt a0 a1)) 32)) 2) == 1) 0 = some (r1, r2, r3, r4, r5, r6)) ∧ Aside0 (kq ≤ kj2) ∧ Aside0 (w'.heap[gb105]? = some (.cells #[.int .i64 x106000_2, .int .i64 x106001_2, .bool x106002_2, .int .i64 x106003_2] 37 (0, 0))) ∧ Aside0 (w'.heap[gb106]? = some (.cells #[.int .i64 0, .int .i64 0, .bool false, .int .i64 0] 37 (0, 0))) ∧ Aside0 (w'.heap[gb107]? = some (.cells #[.int .i64 (wrap64 (Int.tdiv (wrap64 (bt a0 a1)) 64)), .int .i64 x108001_2, .bool ((Int.tmod (wrap64 (Int.tdiv (wrap64 (bt a0 a1)) 32)) 2) == 1), .int .i64 0] 37 (0, 0))) ∧ Aside0 (Below w.heap.size w w'))
         case atStart => exact ⟨(0), (wrap64 (a1 + 1)), (0), (0), (false), (0), (Int.tmod (wrap64 (bt a0 a1)) 32), zz0, zz0, H', ⟨Nat.le_refl _⟩, ⟨by (with_reducible repeat (first | refine blk_drewN ?_ _ | refine blk_drew ?_ | refine blk_alloc ?_ _)); refine blk_far ?_ NB105_107.out _; (with_reducible repeat (first | refine blk_drewN ?_ _ | refine blk_drew ?_ | refine blk_alloc ?_ _)); refine blk_far ?_ NB105_107.out _; (with_reducible repeat (first | refine blk_drewN ?_ _ | refine blk_drew ?_ | refine blk_alloc ?_ _)); refine blk_far ?_ NB105_107.out _; (with_reducible repeat (first | refine blk_drewN ?_ _ | refine blk_drew ?_ | refine blk_alloc ?_ _)); refine blk_far ?_ NB105_107.out _; (with_reducible repeat (first | refine blk_drewN ?_ _ | refine blk_drew ?_ | refine blk_alloc ?_ _)); exact BK105.out⟩, ⟨by (with_reducible repeat (first | refine blk_drewN ?_ _ | refine blk_drew ?_ | refine blk_alloc ?_ _)); refine blk_far ?_ NB106_107.out _; (with_reducible repeat (first | refine blk_drewN ?_ _ | refine blk_drew ?_ | refine blk_alloc ?_ _)); refine blk_far ?_ NB106_107.out _; (with_reducible repeat (first | refine blk_drewN ?_ _ | refine blk_drew ?_ | refine blk_alloc ?_ _)); refine blk_far ?_ NB106_107.out _; (with_reducible repeat (first | refine blk_drewN ?_ _ | refine blk_drew ?_ | refine blk_alloc ?_ _)); refine blk_far ?_ NB106_107.out _; (with_reducible repeat (first | refine blk_drewN ?_ _ | refine blk_drew ?_ | refine blk_alloc ?_ _)); exact BK106.out⟩, ⟨by (with_reducible repeat (first | refine blk_drewN ?_ _ | refine blk_drew ?_ | refine blk_alloc ?_ _)); refine blk_put (cs := #[.int .i64 (wrap64 (Int.tdiv (wrap64 (bt a0 a1)) 64)), .int .i64 (Int.tmod (wrap64 (bt a0 a1)) 32), .bool ((Int.tmod (wrap64 (Int.tdiv (wrap64 (bt a0 a1)) 32)) 2) == 1), .int .i64 0]) ?_ 3 _ rfl; (with_reducible repeat (first | refine blk_drewN ?_ _ | refine blk_drew ?_ | refine blk_alloc ?_ _)); refine blk_put (cs := #[.int .i64 (wrap64 (Int.tdiv (wrap64 (bt a0 a1)) 64)), .int .i64 (Int.tmod (wrap64 (bt a0 a1)) 32), .bool false, .int .i64 0]) ?_ 2 _ rfl; (with_reducible repeat (first | refine blk_drewN ?_ _ | refine blk_drew ?_ | refine blk_alloc ?_ _)); refine blk_put (cs := #[.int .i64 (wrap64 (Int.tdiv (wrap64 (bt a0 a1)) 64)), .int .i64 0, .bool false, .int .i64 0]) ?_ 1 _ rfl; (with_reducible repeat (first | refine blk_drewN ?_ _ | refine blk_drew ?_ | refine blk_alloc ?_ _)); refine blk_put (cs := #[.int .i64 0, .int .i64 0, .bool false, .int .i64 0]) ?_ 0 _ rfl; (with_reducible repeat (first | refine blk_drewN ?_ _ | refine blk_drew ?_ | refine blk_alloc ?_ _)); exact BK107.out⟩, ⟨zz16⟩⟩
         case round =>
          clear H'
          try clear c9
          try clear c13
          try clear c13b0
          try clear c13b1
          try clear c17b0
          try clear c18b0
          try clear p19
          try clear q19
          try clear hx19
          try clear c20b0
          try clear c20b1
          try clear hcz24_0
          try clear hcz24_1
          try clear hcz24_2
          try clear hcz24_3
          try clear hfz24_0
          try clear hfz24_1
          try clear hfz24_2
          try clear hfz24_3
          obtain ⟨x10_2, x11_2, x106000_2, x106001_2, x106002_2, x106003_2, x108001_2, rfl, rfl, HA, HK2, BK105, BK106, BK107, HB⟩ := hrel
          cases gk with
          | zero => exact absurd HA.out (by simp [gantletref05_Get.l0])
          | succ k2 =>
            have H := HA.out
            clear HA
            simp only [gantletref05_Get.l0] at H
            by_cases c25 : x11_2 < (a0.size : Int)
            ·
             rw [if_pos c25] at H
             have c25b0 := decide_eq_true c25
             clear c25
             by_cases c26 : 0 ≤ x11_2
             ·
              rw [if_pos c26] at H
              have c26b0 := decide_eq_true c26
              clear c26
              have HC28 := Aside0.mk H
              clear H
              have p27 : 0 ≤ (x11_2 : Int) := of_decide_eq_true zz4
              have q27 : x11_2 < (a0.size : Int) := of_decide_eq_true zz4
              have hx27 := bt_at a0 x11_2
              replace p27 := eq_true p27
              replace q27 := eq_true q27
              go_upto_region 15 with (fail)
              go_cut [67] (fun v67 wc => ∃ (kq : Nat) (x67_27 : Bool), v67 = .bool x67_27 ∧ Aside0 (gantletref05_Get.j2 kq a0 a1 x10_2 x11_2 (wrap64 (bt a0 x11_2)) x67_27 0 0 false 0 (wrap64 (Int.tdiv (wrap64 (bt a0 a1)) 64)) x108001_2 ((Int.tmod (wrap64 (Int.tdiv (wrap64 (bt a0 a1)) 32)) 2) == 1) 0 = some (r1, r2, r3, r4, r5, r6)) ∧ Aside0 (kq ≤ k2) ∧ Aside0 (wc.heap[gb105]? = some (.cells #[.int .i64 x106000_2, .int .i64 x106001_2, .bool x106002_2, .int .i64 x106003_2] 37 (0, 0))) ∧ Aside0 (wc.heap[gb106]? = some (.cells #[.int .i64 0, .int .i64 0, .bool false, .int .i64 0] 37 (0, 0))) ∧ Aside0 (wc.heap[gb107]? = some (.cells #[.int .i64 (wrap64 (Int.tdiv (wrap64 (bt a0 a1)) 64)), .int .i64 x108001_2, .bool ((Int.tmod (wrap64 (Int.tdiv (wrap64 (bt a0 a1)) 32)) 2) == 1), .int .i64 0] 37 (0, 0))) ∧ Aside0 (Below w.heap.size w wc))
              case first =>
               have H := HC28.out
               clear HC28
               by_cases c29 : x11_2 = (wrap64 (a1 + 1))
               ·
                rw [if_pos c29] at H
                have c29b0 := beq_iff_eq.mpr c29
                have c29b1 := bne_eq_false_iff_eq.mpr c29
                clear c29
                (first | rw [c29b0] | (simp only [i64_w, i32_w]; rw [c29b0]) | skip)
                have H' := Aside0.mk H
                clear H
                go_wp2
                go_meet
                case rel => exact ⟨_, (((wrap64 (bt a0 x11_2)) == 128)), zz0, H', ⟨zz64⟩, ⟨zz25⟩, ⟨zz31⟩, ⟨zz63⟩, ⟨zz16⟩⟩
               ·
                rw [if_neg c29] at H
                have c29b0 := beq_eq_false_iff_ne.mpr c29
                have c29b1 := bne_iff_ne.mpr c29
                (first | rw [c29b0] | (simp only [i64_w, i32_w]; rw [c29b0]) | skip)
                have H' := Aside0.mk H
                clear H
                go_wp2
                go_meet
                case rel => exact ⟨_, (false), zz0, H', ⟨zz64⟩, ⟨zz25⟩, ⟨zz31⟩, ⟨zz63⟩, ⟨zz16⟩⟩
              case rest =>
               clear HC28
               try clear c25b0
               try clear c26b0
               try clear p27
               try clear q27
               try clear hx27
               obtain ⟨kq, x67_27, rfl, HA, HJ27, BK105, BK106, BK107, HB⟩ := hcut
               cases kq with
               | zero => exact absurd HA.out (by simp [gantletref05_Get.j2])
               | succ kj27 =>
                 have H := HA.out
                 clear HA
                 simp only [gantletref05_Get.j2] at H
                 by_cases c30 : x67_27 = true
                 ·
                  subst c30
                  rw [if_pos rfl] at H
                  simp only [Option.some.injEq, Prod.mk.injEq] at H
                  obtain ⟨rfl, rfl, rfl, rfl, rfl, rfl⟩ := H
                  have hnb31 := NB106_105.out
                  have hnc31 := NB105_106.out
                  have hnb32 := NB106_107.out
                  have hnc32 := NB107_106.out
                  have hcz33_0 : wc.cell? ⟨gb106, 0, none⟩ = some (.int .i64 0) := (blk_cell BK106.out 0).trans rfl
                  have hcz33_1 : wc.cell? ⟨gb106, 1, none⟩ = some (.int .i64 0) := (blk_cell BK106.out 1).trans rfl
                  have hcz33_2 : wc.cell? ⟨gb106, 2, none⟩ = some (.bool false) := (blk_cell BK106.out 2).trans rfl
                  have hcz33_3 : wc.cell? ⟨gb106, 3, none⟩ = some (.int .i64 0) := (blk_cell BK106.out 3).trans rfl
                  have hfz33_0 := blk_frozen BK106.out 0
                  have hfz33_1 := blk_frozen BK106.out 1
                  have hfz33_2 := blk_frozen BK106.out 2
                  have hfz33_3 := blk_frozen BK106.out 3
                  have hnb34 := NB105_107.out
                  have hnc34 := NB107_105.out
                  have hcz35_0 : wc.cell? ⟨gb105, 0, none⟩ = some (.int .i64 x106000_2) := (blk_cell BK105.out 0).trans rfl
                  have hcz35_1 : wc.cell? ⟨gb105, 1, none⟩ = some (.int .i64 x106001_2) := (blk_cell BK105.out 1).trans rfl
                  have hcz35_2 : wc.cell? ⟨gb105, 2, none⟩ = some (.bool x106002_2) := (blk_cell BK105.out 2).trans rfl
                  have hcz35_3 : wc.cell? ⟨gb105, 3, none⟩ = some (.int .i64 x106003_2) := (blk_cell BK105.out 3).trans rfl
                  have hfz35_0 := blk_frozen BK105.out 0
                  have hfz35_1 := blk_frozen BK105.out 1
                  have hfz35_2 := blk_frozen BK105.out 2
                  have hfz35_3 := blk_frozen BK105.out 3
                  go_wp2
                  refine bodyPost_ret (results_ctt rfl _ _ gb105 37 #[.int .i64 0, .int .i64 0, .bool false, .int .i64 0] (0, 0) _ rfl zz12 Try.underlying37 rfl zz8) rfl ?_
                  exact ⟨zz6, zz16⟩
                 ·
                  replace c30 := Bool.eq_false_iff.mpr c30
                  subst c30
                  rw [if_neg (show ¬ (false = true) by decide)] at H
                  by_cases c36 : (wrap64 ((wrap64 (128 * x10_2)) + (Int.tmod (wrap64 (bt a0 x11_2)) 128))) > 268435455
                  ·
                   rw [if_pos c36] at H
                   have c36b0 : decide (268435455 < (wrap64 ((wrap64 (128 * x10_2)) + (Int.tmod (wrap64 (bt a0 x11_2)) 128)))) = true := decide_eq_true c36
                   clear c36
                   simp only [Option.some.injEq, Prod.mk.injEq] at H
                   obtain ⟨rfl, rfl, rfl, rfl, rfl, rfl⟩ := H
                   have hnb37 := NB106_105.out
                   have hnc37 := NB105_106.out
                   have hnb38 := NB106_107.out
                   have hnc38 := NB107_106.out
                   have hcz39_0 : wc.cell? ⟨gb106, 0, none⟩ = some (.int .i64 0) := (blk_cell BK106.out 0).trans rfl
                   have hcz39_1 : wc.cell? ⟨gb106, 1, none⟩ = some (.int .i64 0) := (blk_cell BK106.out 1).trans rfl
                   have hcz39_2 : wc.cell? ⟨gb106, 2, none⟩ = some (.bool false) := (blk_cell BK106.out 2).trans rfl
                   have hcz39_3 : wc.cell? ⟨gb106, 3, none⟩ = some (.int .i64 0) := (blk_cell BK106.out 3).trans rfl
                   have hfz39_0 := blk_frozen BK106.out 0
                   have hfz39_1 := blk_frozen BK106.out 1
                   have hfz39_2 := blk_frozen BK106.out 2
                   have hfz39_3 := blk_frozen BK106.out 3
                   have hnb40 := NB105_107.out
                   have hnc40 := NB107_105.out
                   have hcz41_0 : wc.cell? ⟨gb105, 0, none⟩ = some (.int .i64 x106000_2) := (blk_cell BK105.out 0).trans rfl
                   have hcz41_1 : wc.cell? ⟨gb105, 1, none⟩ = some (.int .i64 x106001_2) := (blk_cell BK105.out 1).trans rfl
                   have hcz41_2 : wc.cell? ⟨gb105, 2, none⟩ = some (.bool x106002_2) := (blk_cell BK105.out 2).trans rfl
                   have hcz41_3 : wc.cell? ⟨gb105, 3, none⟩ = some (.int .i64 x106003_2) := (blk_cell BK105.out 3).trans rfl
                   have hfz41_0 := blk_frozen BK105.out 0
                   have hfz41_1 := blk_frozen BK105.out 1
                   have hfz41_2 := blk_frozen BK105.out 2
                   have hfz41_3 := blk_frozen BK105.out 3
                   go_wp2
                   refine bodyPost_ret (results_ctt rfl _ _ gb105 37 #[.int .i64 0, .int .i64 0, .bool false, .int .i64 0] (0, 0) _ rfl zz12 Try.underlying37 rfl zz8) rfl ?_
                   exact ⟨zz6, zz16⟩
                  ·
                   rw [if_neg c36] at H
                   have c36b0 : decide (268435455 < (wrap64 ((wrap64 (128 * x10_2)) + (Int.tmod (wrap64 (bt a0 x11_2)) 128)))) = false := decide_eq_false c36
                   clear c36
                   by_cases c42 : (wrap64 (bt a0 x11_2)) < 128
                   ·
                    rw [if_pos c42] at H
                    have c42b0 := decide_eq_true c42
                    clear c42
                    by_cases c43 : (wrap64 ((wrap64 (128 * x10_2)) + (Int.tmod (wrap64 (bt a0 x11_2)) 128))) < 31
                    ·
                     rw [if_pos c43] at H
                     have c43b0 := decide_eq_true c43
                     clear c43
                     simp only [Option.some.injEq, Prod.mk.injEq] at H
                     obtain ⟨rfl, rfl, rfl, rfl, rfl, rfl⟩ := H
                     have hnb44 := NB106_105.out
                     have hnc44 := NB105_106.out
                     have hnb45 := NB106_107.out
                     have hnc45 := NB107_106.out
                     have hcz46_0 : wc.cell? ⟨gb106, 0, none⟩ = some (.int .i64 0) := (blk_cell BK106.out 0).trans rfl
                     have hcz46_1 : wc.cell? ⟨gb106, 1, none⟩ = some (.int .i64 0) := (blk_cell BK106.out 1).trans rfl
                     have hcz46_2 : wc.cell? ⟨gb106, 2, none⟩ = some (.bool false) := (blk_cell BK106.out 2).trans rfl
                     have hcz46_3 : wc.cell? ⟨gb106, 3, none⟩ = some (.int .i64 0) := (blk_cell BK106.out 3).trans rfl
                     have hfz46_0 := blk_frozen BK106.out 0
                     have hfz46_1 := blk_frozen BK106.out 1
                     have hfz46_2 := blk_frozen BK106.out 2
                     have hfz46_3 := blk_frozen BK106.out 3
                     have hnb47 := NB105_107.out
                     have hnc47 := NB107_105.out
                     have hcz48_0 : wc.cell? ⟨gb105, 0, none⟩ = some (.int .i64 x106000_2) := (blk_cell BK105.out 0).trans rfl
                     have hcz48_1 : wc.cell? ⟨gb105, 1, none⟩ = some (.int .i64 x106001_2) := (blk_cell BK105.out 1).trans rfl
                     have hcz48_2 : wc.cell? ⟨gb105, 2, none⟩ = some (.bool x106002_2) := (blk_cell BK105.out 2).trans rfl
                     have hcz48_3 : wc.cell? ⟨gb105, 3, none⟩ = some (.int .i64 x106003_2) := (blk_cell BK105.out 3).trans rfl
                     have hfz48_0 := blk_frozen BK105.out 0
                     have hfz48_1 := blk_frozen BK105.out 1
                     have hfz48_2 := blk_frozen BK105.out 2
                     have hfz48_3 := blk_frozen BK105.out 3
                     go_wp2
                     refine bodyPost_ret (results_ctt rfl _ _ gb105 37 #[.int .i64 0, .int .i64 0, .bool false, .int .i64 0] (0, 0) _ rfl zz12 Try.underlying37 rfl zz8) rfl ?_
                     exact ⟨zz6, zz16⟩
                    ·
                     rw [if_neg c43] at H
                     have c43b0 := decide_eq_false c43
                     clear c43
                     simp only [Option.some.injEq, Prod.mk.injEq] at H
                     obtain ⟨rfl, rfl, rfl, rfl, rfl, rfl⟩ := H
                     have hnb49 := NB107_105.out
                     have hnc49 := NB105_107.out
                     have hnb50 := NB107_106.out
                     have hnc50 := NB106_107.out
                     have hcz51_0 : wc.cell? ⟨gb107, 0, none⟩ = some (.int .i64 (wrap64 (Int.tdiv (wrap64 (bt a0 a1)) 64))) := (blk_cell BK107.out 0).trans rfl
                     have hcz51_1 : wc.cell? ⟨gb107, 1, none⟩ = some (.int .i64 x108001_2) := (blk_cell BK107.out 1).trans rfl
                     have hcz51_2 : wc.cell? ⟨gb107, 2, none⟩ = some (.bool ((Int.tmod (wrap64 (Int.tdiv (wrap64 (bt a0 a1)) 32)) 2) == 1)) := (blk_cell BK107.out 2).trans rfl
                     have hcz51_3 : wc.cell? ⟨gb107, 3, none⟩ = some (.int .i64 0) := (blk_cell BK107.out 3).trans rfl
                     have hfz51_0 := blk_frozen BK107.out 0
                     have hfz51_1 := blk_frozen BK107.out 1
                     have hfz51_2 := blk_frozen BK107.out 2
                     have hfz51_3 := blk_frozen BK107.out 3
                     have hnb52 := NB105_106.out
                     have hnc52 := NB106_105.out
                     have hcz53_0 : wc.cell? ⟨gb105, 0, none⟩ = some (.int .i64 x106000_2) := (blk_cell BK105.out 0).trans rfl
                     have hcz53_1 : wc.cell? ⟨gb105, 1, none⟩ = some (.int .i64 x106001_2) := (blk_cell BK105.out 1).trans rfl
                     have hcz53_2 : wc.cell? ⟨gb105, 2, none⟩ = some (.bool x106002_2) := (blk_cell BK105.out 2).trans rfl
                     have hcz53_3 : wc.cell? ⟨gb105, 3, none⟩ = some (.int .i64 x106003_2) := (blk_cell BK105.out 3).trans rfl
                     have hfz53_0 := blk_frozen BK105.out 0
                     have hfz53_1 := blk_frozen BK105.out 1
                     have hfz53_2 := blk_frozen BK105.out 2
                     have hfz53_3 := blk_frozen BK105.out 3
                     go_wp2
                     refine bodyPost_ret (results_ctt rfl _ _ gb105 37 #[.int .i64 (wrap64 (Int.tdiv (wrap64 (bt a0 a1)) 64)), .int .i64 (wrap64 ((wrap64 (128 * x10_2)) + (Int.tmod (wrap64 (bt a0 x11_2)) 128))), .bool ((Int.tmod (wrap64 (Int.tdiv (wrap64 (bt a0 a1)) 32)) 2) == 1), .int .i64 0] (0, 0) _ rfl (by (with_reducible repeat (first | refine blk_drewN ?_ _ | refine blk_drew ?_ | refine blk_alloc ?_ _)); refine blk_put (cs := #[.int .i64 (wrap64 (Int.tdiv (wrap64 (bt a0 a1)) 64)), .int .i64 (wrap64 ((wrap64 (128 * x10_2)) + (Int.tmod (wrap64 (bt a0 x11_2)) 128))), .bool ((Int.tmod (wrap64 (Int.tdiv (wrap64 (bt a0 a1)) 32)) 2) == 1), .int .i64 x106003_2]) ?_ 3 _ rfl; (with_reducible repeat (first | refine blk_drewN ?_ _ | refine blk_drew ?_ | refine blk_alloc ?_ _)); refine blk_put (cs := #[.int .i64 (wrap64 (Int.tdiv (wrap64 (bt a0 a1)) 64)), .int .i64 (wrap64 ((wrap64 (128 * x10_2)) + (Int.tmod (wrap64 (bt a0 x11_2)) 128))), .bool x106002_2, .int .i64 x106003_2]) ?_ 2 _ rfl; (with_reducible repeat (first | refine blk_drewN ?_ _ | refine blk_drew ?_ | refine blk_alloc ?_ _)); refine blk_put (cs := #[.int .i64 (wrap64 (Int.tdiv (wrap64 (bt a0 a1)) 64)), .int .i64 x106001_2, .bool x106002_2, .int .i64 x106003_2]) ?_ 1 _ rfl; (with_reducible repeat (first | refine blk_drewN ?_ _ | refine blk_drew ?_ | refine blk_alloc ?_ _)); refine blk_put (cs := #[.int .i64 x106000_2, .int .i64 x106001_2, .bool x106002_2, .int .i64 x106003_2]) ?_ 0 _ rfl; (with_reducible repeat (first | refine blk_drewN ?_ _ | refine blk_drew ?_ | refine blk_alloc ?_ _)); refine blk_far ?_ NB105_107.out _; (with_reducible repeat (first | refine blk_drewN ?_ _ | refine blk_drew ?_ | refine blk_alloc ?_ _)); exact BK105.out) Try.underlying37 rfl zz8) rfl ?_
                     exact ⟨zz6, zz16⟩
                   ·
                    rw [if_neg c42] at H
                    have c42b0 := decide_eq_false c42
                    clear c42
                    have H' := Aside0.mk H
                    clear H
                    go_wp2
                    go_roundg kj27
                    case measure => have := HJ2.out; have := HK2.out; have := HJ27.out; omega
                    case rel => exact ⟨(wrap64 ((wrap64 (128 * x10_2)) + (Int.tmod (wrap64 (bt a0 x11_2)) 128))), (wrap64 (x11_2 + 1)), (x106000_2), (x106001_2), (x106002_2), (x106003_2), (x108001_2), zz0, zz0, H', ⟨by have := HJ2.out; have := HK2.out; have := HJ27.out; omega⟩, ⟨zz25⟩, ⟨zz31⟩, ⟨zz63⟩, ⟨zz16⟩⟩
             ·
              rw [if_neg c26] at H
              exact absurd H zz29
            ·
             rw [if_neg c25] at H
             have c25b0 := decide_eq_false c25
             clear c25
             simp only [Option.some.injEq, Prod.mk.injEq] at H
             obtain ⟨rfl, rfl, rfl, rfl, rfl, rfl⟩ := H
             have hnb54 := NB106_105.out
             have hnc54 := NB105_106.out
             have hnb55 := NB106_107.out
             have hnc55 := NB107_106.out
             have hcz56_0 : wr.cell? ⟨gb106, 0, none⟩ = some (.int .i64 0) := (blk_cell BK106.out 0).trans rfl
             have hcz56_1 : wr.cell? ⟨gb106, 1, none⟩ = some (.int .i64 0) := (blk_cell BK106.out 1).trans rfl
             have hcz56_2 : wr.cell? ⟨gb106, 2, none⟩ = some (.bool false) := (blk_cell BK106.out 2).trans rfl
             have hcz56_3 : wr.cell? ⟨gb106, 3, none⟩ = some (.int .i64 0) := (blk_cell BK106.out 3).trans rfl
             have hfz56_0 := blk_frozen BK106.out 0
             have hfz56_1 := blk_frozen BK106.out 1
             have hfz56_2 := blk_frozen BK106.out 2
             have hfz56_3 := blk_frozen BK106.out 3
             have hnb57 := NB105_107.out
             have hnc57 := NB107_105.out
             have hcz58_0 : wr.cell? ⟨gb105, 0, none⟩ = some (.int .i64 x106000_2) := (blk_cell BK105.out 0).trans rfl
             have hcz58_1 : wr.cell? ⟨gb105, 1, none⟩ = some (.int .i64 x106001_2) := (blk_cell BK105.out 1).trans rfl
             have hcz58_2 : wr.cell? ⟨gb105, 2, none⟩ = some (.bool x106002_2) := (blk_cell BK105.out 2).trans rfl
             have hcz58_3 : wr.cell? ⟨gb105, 3, none⟩ = some (.int .i64 x106003_2) := (blk_cell BK105.out 3).trans rfl
             have hfz58_0 := blk_frozen BK105.out 0
             have hfz58_1 := blk_frozen BK105.out 1
             have hfz58_2 := blk_frozen BK105.out 2
             have hfz58_3 := blk_frozen BK105.out 3
             go_wp2
             refine bodyPost_ret (results_ctt rfl _ _ gb105 37 #[.int .i64 0, .int .i64 0, .bool false, .int .i64 0] (0, 0) _ rfl zz12 Try.underlying37 rfl zz8) rfl ?_
             exact ⟨zz6, zz16⟩
        ·
         rw [if_neg c20] at H
         have c20b0 := beq_eq_false_iff_ne.mpr c20
         have c20b1 := bne_iff_ne.mpr c20
         simp only [Option.some.injEq, Prod.mk.injEq] at H
         obtain ⟨rfl, rfl, rfl, rfl, rfl, rfl⟩ := H
         have p19 : 0 ≤ (a1 : Int) := of_decide_eq_true zz4
         have q19 : a1 < (a0.size : Int) := of_decide_eq_true zz4
         have hx19 := bt_at a0 a1
         replace p19 := eq_true p19
         replace q19 := eq_true q19
         go_wp2_with (first | ((with_reducible refine gate_dst (N := 9) rfl ?_); (try (refine gate_guard (by rfl) ?_; dsimp only)); refine zzbx (N := 9) (cs := #[.int .i64 0, .int .i64 0, .bool false, .int .i64 0]) (t := 37) ?_; intro gb107 hg w59 hbox hb; have n0_ := Aside0.mk (blk_below (g := gb105) (o := .cells #[.int .i64 0, .int .i64 0, .bool false, .int .i64 0] 37 (0, 0)) zz25 hb); have n1_ := Aside0.mk (blk_below (g := gb106) (o := .cells #[.int .i64 0, .int .i64 0, .bool false, .int .i64 0] 37 (0, 0)) zz31 hb); have n2_ := Aside0.mk (below_step zz24 hb); have n3_ := Aside0.mk (hbox); have n4_ := Aside0.mk ((by rw [hg]; exact (below_size zz24) : w.heap.size ≤ gb107)); have n5_ := n4_; have n6_ := Aside0.mk ((zz55 : gb105 ≠ gb107)); have n7_ := Aside0.mk ((zz56 : gb107 ≠ gb105)); have n8_ := Aside0.mk ((by rw [hg]; exact Nat.ne_of_lt (blk_lt (g := gb106) (o := .cells #[.int .i64 0, .int .i64 0, .bool false, .int .i64 0] 37 (0, 0)) zz31) : gb106 ≠ gb107)); have n9_ := Aside0.mk ((by rw [hg]; exact Nat.ne_of_gt (blk_lt (g := gb106) (o := .cells #[.int .i64 0, .int .i64 0, .bool false, .int .i64 0] 37 (0, 0)) zz31) : gb107 ≠ gb106)); clear BK105; clear BK106; clear HB; have BK105 := n0_; have BK106 := n1_; have HB := n2_; have BK107 := n3_; have GW107 := n4_; have GE107 := n5_; have NB105_107 := n6_; have NB107_105 := n7_; have NB106_107 := n8_; have NB107_106 := n9_; clear n0_ n1_ n2_ n3_ n4_ n5_ n6_ n7_ n8_ n9_; clear hb hbox hg; have hnb60 := NB107_105.out; have hnc60 := NB105_107.out; have hnb61 := NB107_106.out; have hnc61 := NB106_107.out; have hcz62_0 : w59.cell? ⟨gb107, 0, none⟩ = some (.int .i64 0) := (blk_cell BK107.out 0).trans rfl; have hcz62_1 : w59.cell? ⟨gb107, 1, none⟩ = some (.int .i64 0) := (blk_cell BK107.out 1).trans rfl; have hcz62_2 : w59.cell? ⟨gb107, 2, none⟩ = some (.bool false) := (blk_cell BK107.out 2).trans rfl; have hcz62_3 : w59.cell? ⟨gb107, 3, none⟩ = some (.int .i64 0) := (blk_cell BK107.out 3).trans rfl; have hfz62_0 := blk_frozen BK107.out 0; have hfz62_1 := blk_frozen BK107.out 1; have hfz62_2 := blk_frozen BK107.out 2; have hfz62_3 := blk_frozen BK107.out 3; have hnb63 := NB105_106.out; have hnc63 := NB106_105.out; have hcz64_0 : w59.cell? ⟨gb105, 0, none⟩ = some (.int .i64 0) := (blk_cell BK105.out 0).trans rfl; have hcz64_1 : w59.cell? ⟨gb105, 1, none⟩ = some (.int .i64 0) := (blk_cell BK105.out 1).trans rfl; have hcz64_2 : w59.cell? ⟨gb105, 2, none⟩ = some (.bool false) := (blk_cell BK105.out 2).trans rfl; have hcz64_3 : w59.cell? ⟨gb105, 3, none⟩ = some (.int .i64 0) := (blk_cell BK105.out 3).trans rfl; have hfz64_0 := blk_frozen BK105.out 0; have hfz64_1 := blk_frozen BK105.out 1; have hfz64_2 := blk_frozen BK105.out 2; have hfz64_3 := blk_frozen BK105.out 3))
         refine bodyPost_ret (results_ctt rfl _ _ gb105 37 #[.int .i64 (wrap64 (Int.tdiv (wrap64 (bt a0 a1)) 64)), .int .i64 (Int.tmod (wrap64 (bt a0 a1)) 32), .bool ((Int.tmod (wrap64 (Int.tdiv (wrap64 (bt a0 a1)) 32)) 2) == 1), .int .i64 0] (0, 0) _ rfl (by (with_reducible repeat (first | refine blk_drewN ?_ _ | refine blk_drew ?_ | refine blk_alloc ?_ _)); refine blk_put (cs := #[.int .i64 (wrap64 (Int.tdiv (wrap64 (bt a0 a1)) 64)), .int .i64 (Int.tmod (wrap64 (bt a0 a1)) 32), .bool ((Int.tmod (wrap64 (Int.tdiv (wrap64 (bt a0 a1)) 32)) 2) == 1), .int .i64 0]) ?_ 3 _ rfl; (with_reducible repeat (first | refine blk_drewN ?_ _ | refine blk_drew ?_ | refine blk_alloc ?_ _)); refine blk_put (cs := #[.int .i64 (wrap64 (Int.tdiv (wrap64 (bt a0 a1)) 64)), .int .i64 (Int.tmod (wrap64 (bt a0 a1)) 32), .bool false, .int .i64 0]) ?_ 2 _ rfl; (with_reducible repeat (first | refine blk_drewN ?_ _ | refine blk_drew ?_ | refine blk_alloc ?_ _)); refine blk_put (cs := #[.int .i64 (wrap64 (Int.tdiv (wrap64 (bt a0 a1)) 64)), .int .i64 0, .bool false, .int .i64 0]) ?_ 1 _ rfl; (with_reducible repeat (first | refine blk_drewN ?_ _ | refine blk_drew ?_ | refine blk_alloc ?_ _)); refine blk_put (cs := #[.int .i64 0, .int .i64 0, .bool false, .int .i64 0]) ?_ 0 _ rfl; (with_reducible repeat (first | refine blk_drewN ?_ _ | refine blk_drew ?_ | refine blk_alloc ?_ _)); refine blk_far ?_ NB105_107.out _; (with_reducible repeat (first | refine blk_drewN ?_ _ | refine blk_drew ?_ | refine blk_alloc ?_ _)); refine blk_far ?_ NB105_107.out _; (with_reducible repeat (first | refine blk_drewN ?_ _ | refine blk_drew ?_ | refine blk_alloc ?_ _)); refine blk_far ?_ NB105_107.out _; (with_reducible repeat (first | refine blk_drewN ?_ _ | refine blk_drew ?_ | refine blk_alloc ?_ _)); refine blk_far ?_ NB105_107.out _; (with_reducible repeat (first | refine blk_drewN ?_ _ | refine blk_drew ?_ | refine blk_alloc ?_ _)); exact BK105.out) Try.underlying37 rfl zz8) rfl ?_
         exact ⟨zz6, zz16⟩
       ·
        rw [if_neg c18] at H
        exact absurd H zz29
      ·
       rw [if_neg c17] at H
       exact absurd H zz29
end Go.Proofs.Ytpfconocipmcjaa.PC
namespace Go.Proofs.Ytpfconocipmcjaa.PC
open Own Sl
open RowKit YtpfconocipmcjaaW.PrintWords YtpfconocipmcjaaW.PrintLast YtpfconocipmcjaaW.PrintMore
attribute [local go_sem] max2_int min2_int max_two min_two max_three min_three max_four min_four
set_option linter.unusedVariables false
set_option linter.unusedSimpArgs false
mutual
def gantletref06_Get.j0 : Nat → ByteArray → Int → Bool → Option (Int × Int × Int)
 | 0, _, _, _ => none
 | k + 1, x0, x1, x19 => if x19 = true then (some (0, 0, 1)) else (if x1 = (x0.size : Int) then (some (0, x1, 2)) else (if 0 ≤ x1 then (if x1 < (x0.size : Int) then (if (wrap64 (bt x0 x1)) < 128 then (some (wrap64 (bt x0 x1), wrap64 (x1 + 1), 0)) else (if (wrap64 (bt x0 x1)) = 128 then (gantletref06_Get.j1 k x0 x1 (wrap64 (bt x0 x1)) true) else (gantletref06_Get.j1 k x0 x1 (wrap64 (bt x0 x1)) (decide ((wrap64 (bt x0 x1)) > 136))))) else (none)) else (none)))
def gantletref06_Get.j1 : Nat → ByteArray → Int → Int → Bool → Option (Int × Int × Int)
 | 0, _, _, _, _ => none
 | k + 1, x0, x1, x7, x39 => if x39 = true then (some (0, x1, 4)) else (if 0 ≤ (wrap64 (x1 + 1)) then (if (wrap64 (x1 + 1)) ≤ (x0.size : Int) then (if ((x0.extract ((wrap64 (x1 + 1)) : Int).toNat x0.size).size : Int) > 0 then (if 0 < ((x0.extract ((wrap64 (x1 + 1)) : Int).toNat x0.size).size : Int) then (if (bt (x0.extract ((wrap64 (x1 + 1)) : Int).toNat x0.size) 0) = 0 then (gantletref06_Get.j2 k x0 x1 (x0.extract ((wrap64 (x1 + 1)) : Int).toNat x0.size) (wrap64 (x7 - 128)) true) else (if (wrap64 (x7 - 128)) = 1 then (gantletref06_Get.j2 k x0 x1 (x0.extract ((wrap64 (x1 + 1)) : Int).toNat x0.size) (wrap64 (x7 - 128)) (decide ((bt (x0.extract ((wrap64 (x1 + 1)) : Int).toNat x0.size) 0) < 128))) else (gantletref06_Get.j2 k x0 x1 (x0.extract ((wrap64 (x1 + 1)) : Int).toNat x0.size) (wrap64 (x7 - 128)) false))) else (none)) else (gantletref06_Get.j2 k x0 x1 (x0.extract ((wrap64 (x1 + 1)) : Int).toNat x0.size) (wrap64 (x7 - 128)) false)) else (none)) else (none))
def gantletref06_Get.j2 : Nat → ByteArray → Int → ByteArray → Int → Bool → Option (Int × Int × Int)
 | 0, _, _, _, _, _ => none
 | k + 1, x0, x1, x8, x9, x63 => if x63 = true then (some (0, wrap64 (x1 + 1), 4)) else (if (x8.size : Int) < x9 then (some (0, (x0.size : Int), 2)) else (gantletref06_Get.l0 k x1 x8 x9 0 0))
def gantletref06_Get.l0 : Nat → Int → ByteArray → Int → Int → Int → Option (Int × Int × Int)
 | 0, _, _, _, _, _ => none
 | k + 1, x1, x8, x9, x10, x11 => if x11 < x9 then (if x10 > 9007199254740991 then (some (0, wrap64 (x1 + x9), 4)) else (if x10 = 9007199254740991 then (if 0 ≤ x11 then (if x11 < (x8.size : Int) then (if (wrap64 (bt x8 x11)) > 255 then (some (0, wrap64 (x1 + x9), 4)) else (gantletref06_Get.l0 k x1 x8 x9 (wrap64 ((wrap64 (256 * x10)) + (wrap64 (bt x8 x11)))) (wrap64 (x11 + 1)))) else (none)) else (none)) else (if 0 ≤ x11 then (if x11 < (x8.size : Int) then (gantletref06_Get.l0 k x1 x8 x9 (wrap64 ((wrap64 (256 * x10)) + (wrap64 (bt x8 x11)))) (wrap64 (x11 + 1))) else (none)) else (none)))) else (if x10 > 2305843009213693951 then (some (0, wrap64 (x1 + x9), 4)) else (some (x10, wrap64 ((wrap64 (x1 + 1)) + x9), 0)))
end
def gantletref06_Get.f (k : Nat) (a0 : ByteArray) (a1 : Int) : Option (Int × Int × Int) := if a1 < 0 then (gantletref06_Get.j0 k a0 a1 true) else (gantletref06_Get.j0 k a0 a1 (decide (a1 > (a0.size : Int))))
set_option maxHeartbeats 8000000 in
set_option maxRecDepth 100000 in
theorem gantletref06_Get.calls (k : Nat) (a0 : ByteArray) (a1 : Int) (r1 : Int) (r2 : Int) (r3 : Int) (w : World) (h : gantletref06_Get.f k a0 a1 = some (r1, r2, r3)) :
 Calls Try.prog 60 #[.string a0, .int .i64 a1] w fun e w' => e = .returned (.tuple #[.int .i64 r1, .int .i64 r2, .int .i64 r3]) ∧ Drawn0 w w' := by
 unfold gantletref06_Get.f at h
 rcases k with _ | k
 ·
  simp [gantletref06_Get.j0] at h
 simp only [gantletref06_Get.j0, gt_iff_lt, ge_iff_le] at h
 cases e1 : decide (a1 < 0) <;> cases e2 : decide ((a0.size : Int) < a1)
 all_goals
  have q1 := e1
  simp only [decide_eq_true_eq, decide_eq_false_iff_not] at q1
  simp only [q1, e2, if_true, if_false, Bool.false_eq_true, reduceIte, reduceCtorEq] at h
  clear q1
 all_goals
  try
   (simp only [Option.some.injEq, Prod.mk.injEq] at h
    obtain ⟨rfl, rfl, rfl⟩ := h
    go_enter Try.func60, Try.ntmps60
    go_wp2
    go_ret3
    exact ⟨zz37, zz1⟩)
 obtain ⟨c, hc⟩ : ∃ c : Int, wrap64 (bt a0 a1) = c := ⟨_, rfl⟩
 simp only [hc] at h
 have hw : IntKind.i64.wrap (bt a0 a1) = c := (i64_w _).trans hc
 clear hc
 split at h
 ·
  rename_i g
  replace g := beq_iff_eq.2 g
  simp only [Option.some.injEq, Prod.mk.injEq] at h
  obtain ⟨rfl, rfl, rfl⟩ := h
  go_enter Try.func60, Try.ntmps60
  go_wp2
  go_ret3
  exact ⟨zz37, zz1⟩
 rename_i g
 replace g := beq_eq_false_iff_ne.2 g
 split at h
 case isFalse => cases h
 rename_i p1
 split at h
 case isFalse => cases h
 rename_i p2
 have hx := bt_at a0 a1
 replace p1 := eq_true p1
 replace p2 := eq_true p2
 split at h
 ·
  rename_i g2
  replace g2 := decide_eq_true g2
  simp only [Option.some.injEq, Prod.mk.injEq] at h
  obtain ⟨rfl, rfl, rfl⟩ := h
  go_enter Try.func60, Try.ntmps60
  go_wp2
  go_ret3
  exact ⟨zz37, zz1⟩
 rename_i g2
 replace g2 := decide_eq_false g2
 rcases k with _ | k
 ·
  simp [gantletref06_Get.j1] at h
 obtain ⟨n, hn⟩ : ∃ n : Int, wrap64 (c - 128) = n := ⟨_, rfl⟩
 have hnw : IntKind.i64.wrap (c - 128) = n := (i64_w _).trans hn
 obtain ⟨y, hy⟩ : ∃ y : Int, wrap64 (a1 + 1) = y := ⟨_, rfl⟩
 have hyw : IntKind.i64.wrap (a1 + 1) = y := (i64_w _).trans hy
 obtain ⟨xt, hxt⟩ : ∃ x : ByteArray, a0.extract y.toNat a0.size = x := ⟨_, rfl⟩
 simp only [gantletref06_Get.j1, hn, hy, hxt, gt_iff_lt, ge_iff_le] at h
 cases e3 : (c == 128) <;> cases e4 : decide (136 < c)
 all_goals
  have q3 := e3
  simp only [beq_iff_eq, beq_eq_false_iff_ne, ne_eq] at q3
  simp only [q3, e4, if_true, if_false, Bool.false_eq_true, reduceIte, reduceCtorEq] at h
  try clear q3
 all_goals
  try
   (simp only [Option.some.injEq, Prod.mk.injEq] at h
    obtain ⟨rfl, rfl, rfl⟩ := h
    go_enter Try.func60, Try.ntmps60
    go_wp2
    go_ret3
    exact ⟨zz37, zz1⟩)
 split at h
 case isFalse => cases h
 rename_i p3
 split at h
 case isFalse => cases h
 rename_i p4
 replace p3 := eq_true p3
 replace p4 := eq_true p4
 rcases k with _ | k
 ·
  exfalso
  (iterate 4 (all_goals try (split at h)))
  all_goals (first | cases h | (simp [gantletref06_Get.j2] at h))
 have eb : ∀ a b : Int, (a = b) = ((a == b) = true) := fun a b => by simp
 have hx0 : ∀ h : 0 < xt.size, ((xt[0]'h).toNat : Int) = bt xt 0 := bt_at xt 0
 cases e5 : decide (0 < xt.size) <;> cases e6 : (bt xt 0 == 0) <;> cases e7 : (n == 1) <;> cases e8 : decide (bt xt 0 < 128)
 all_goals
  have z5 : decide ((0 : Int) < (xt.size : Int)) = _ := (decide_eq_decide.2 zz3).trans e5
  have q5 := z5
  have q5n := e5
  simp only [decide_eq_true_eq, decide_eq_false_iff_not] at q5 q5n
  simp only [q5, eb (bt xt 0) 0, eb n 1, e6, e7, e8, gantletref06_Get.j2, hy, if_true, if_false, Bool.false_eq_true, reduceIte, reduceCtorEq] at h
  first | replace q5 := eq_true (show (0 : Int) < (xt.size : Int) from q5) | clear q5
  first | replace q5n := eq_true (show 0 < xt.size from q5n) | clear q5n
  clear eb
 all_goals
  try
   (simp only [Option.some.injEq, Prod.mk.injEq] at h
    obtain ⟨rfl, rfl, rfl⟩ := h
    go_enter Try.func60, Try.ntmps60
    go_wp2
    go_ret3
    exact ⟨zz37, zz1⟩)
 all_goals
  split at h
  ·
   rename_i g3
   replace g3 := decide_eq_true g3
   simp only [Option.some.injEq, Prod.mk.injEq] at h
   obtain ⟨rfl, rfl, rfl⟩ := h
   go_enter Try.func60, Try.ntmps60
   go_wp2
   go_ret3
   exact ⟨zz37, zz1⟩
  rename_i g3
  replace g3 := decide_eq_false g3
  have H' := Aside0.mk h
  clear h
  go_enter Try.func60, Try.ntmps60
  go_wp2
  go_loopg [10, 11] k (fun gk v10 v11 w' => ∃ (x10 x11 : Int), v10 = .int .i64 x10 ∧ v11 = .int .i64 x11 ∧ Aside0 (gantletref06_Get.l0 gk a1 xt n x10 x11 = some (r1, r2, r3)) ∧ Drawn0 w w')
  case atStart => exact ⟨0, 0, rfl, rfl, H', zz1⟩
  case round =>
   clear H' e1 e2 e3 e4 e5 e6 e7 e8 z5 g g2 g3 hx p1 p2 p3 p4 hw hnw hx0 hxt
   try clear q5
   try clear q5n
   obtain ⟨x10, x11, rfl, rfl, HA, ⟨m8, rfl⟩⟩ := hrel
   cases gk with
   | zero => exact absurd HA.out (by simp [gantletref06_Get.l0])
   | succ k8 =>
     have H := HA.out
     clear HA
     obtain ⟨b, hb⟩ : ∃ b : Int, wrap64 (bt xt x11) = b := ⟨_, rfl⟩
     have hbw : IntKind.i64.wrap (bt xt x11) = b := (i64_w _).trans hb
     simp only [gantletref06_Get.l0, hb, hy, gt_iff_lt, ge_iff_le] at H
     have hx := bt_at xt x11
     have hj3 := i64_w (a1 + n)
     clear hb
     split at H
     ·
      rename_i c1
      replace c1 := decide_eq_true c1
      split at H
      ·
       rename_i c2
       replace c2 := decide_eq_true c2
       simp only [Option.some.injEq, Prod.mk.injEq] at H
       obtain ⟨rfl, rfl, rfl⟩ := H
       go_wp2
       go_ret3
       exact ⟨zz37, zz1⟩
      rename_i c2
      replace c2 := decide_eq_false c2
      split at H
      all_goals
       rename_i c3
       first | replace c3 := beq_eq_false_iff_ne.2 c3 | replace c3 := beq_iff_eq.2 c3
       split at H
       case isFalse => cases H
       rename_i p1
       split at H
       case isFalse => cases H
       rename_i p2
       replace p1 := eq_true p1
       replace p2 := eq_true p2
       all_goals try (split at H <;> rename_i c4 <;> first | replace c4 := decide_eq_false c4 | replace c4 := decide_eq_true c4)
       all_goals first
        | (simp only [Option.some.injEq, Prod.mk.injEq] at H
           obtain ⟨rfl, rfl, rfl⟩ := H
           go_wp2
           go_ret3
           exact ⟨zz37, zz1⟩)
        | (have H' := Aside0.mk H
           clear H
           go_wp2
           go_roundg k8
           case measure => omega
           case rel => exact ⟨_, _, zz37, zz37, H', zz1⟩)
     ·
      rename_i c1
      replace c1 := decide_eq_false c1
      have hj4 := i64_w (y + n)
      split at H <;> rename_i g1 <;> first | replace g1 := decide_eq_false g1 | replace g1 := decide_eq_true g1
      all_goals
       simp only [Option.some.injEq, Prod.mk.injEq] at H
       obtain ⟨rfl, rfl, rfl⟩ := H
       go_wp2
       go_ret3
       exact ⟨zz37, zz1⟩
end Go.Proofs.Ytpfconocipmcjaa.PC
