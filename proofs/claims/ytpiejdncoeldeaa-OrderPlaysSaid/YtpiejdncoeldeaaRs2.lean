/- The reference's Sorter, walked: a byte that comes, with no error. -/
import Derived.Test.YtpiejdncoeldeaaRs
import Derived.Deep.RegionLaw
namespace Go.Proofs.Ytpiejdncoeldeaa.Rs
open Go.RowKit Go.Proofs.YtpiejdncoeldeaaW.PrintWords Go.Proofs.YtpiejdncoeldeaaW.PrintLast Go.Proofs.YtpiejdncoeldeaaW.PrintMore Go.Proofs.Ytpiejdncoeldeaa.Own Go.Proofs.Ytpiejdncoeldeaa.Sl Go.Proofs.Ytpiejdncoeldeaa.Cm Go.Proofs.Ytpiejdncoeldeaa.Ord Go.Proofs.Ytpiejdncoeldeaa.Bs
set_option linter.unusedVariables false
set_option linter.unusedSimpArgs false

set_option maxHeartbeats 4000000 in
set_option maxRecDepth 100000 in
theorem push_more (g : Nat) (most : Int) (prev : List ByteArray) (last : ByteArray) (b : Int) (w : World) (S : Nat → Prop) (h : Hs w S [rs g most (prev ++ [last]) 0]) (hm : (last.size : Int) + 1 ≤ most) (hl : prev.length ≤ 1000) (hs : last.size ≤ 1000) :
    Calls Try.prog 14 #[.pointer (some ⟨g, 0, none⟩), .int .u8 b] w fun r w' => r = .returned (.int .i64 0) ∧ Sp w S [rs g most (prev ++ [last ++ strOfNums [b]]) 0] w' := by
  obtain ⟨A, c, hS⟩ := rs_open h
  obtain ⟨ga, n, p, rfl, ⟨hx, hx2⟩, hcap, hn, hnp, hp, hw, hi0, hi1, hi2, hi3⟩ := rs_last hS hl
  obtain ⟨hc0, hc1, hc2⟩ := hS.cells3 0
  rw [hn] at hc1
  have HN := Aside0.mk hn
  have HP := Aside0.mk (And.intro hnp hp)
  have hk := conv_one w b
  obtain ⟨s1, hs1⟩ : ∃ s1, strOfNums [b] = s1 := ⟨_, rfl⟩
  have hs1z : s1.size = 1 := by rw [← hs1]; rfl
  rw [hs1] at hk ⊢
  have hcat : last.size + 1 ≤ 9223372036854775807 := by omega
  have hcat3 : ¬ 9223372036854775807 < last.size + 1 := by omega
  have hcat2 : decide (most < (last.size : Int) + 1) = false := decide_eq_false (by omega)
  clear h hn hnp hp hs1
  obtain ⟨ha0, ha1, ha2⟩ := (hS.lt (W := w.alloc (.cells #[.int .u8 b] 5))).cells3 0
  rw [HN.out] at ha1
  go_enter Try.func14, Try.ntmps14
  go_upto_region 3 with (fail)
  go_cut [5] (fun v5 wc => v5 = .string (last ++ s1) ∧ Aside0 (Sp w S (rsL g most (prev ++ [last]) 0 (some ⟨ga, 0, none⟩) c) wc))
  case first =>
    go_region_law (fail)
    all_goals
      go_wp2
      go_meet
      exact ⟨rfl, ⟨by exact hS.lt⟩⟩
  clear hk hc0 hc1 hc2 hx hx2 ha0 ha1 ha2 hS
  obtain ⟨rfl, HS⟩ := hcut
  have hS := HS.out
  clear HS
  obtain ⟨W1, rfl⟩ : ∃ W1, W1 = wc := ⟨_, rfl⟩
  replace hS : Sp w S [blk g #[.int .i64 most, .slice (some ⟨ga, 0, none⟩) n c, .int .i64 0] 49, row Kd.string 9 (.slice (some ⟨ga, 0, none⟩) n c) (prev ++ [last])] W1 := by rw [← HN.out]; exact hS
  obtain ⟨hc0, hc1, hc2⟩ := hS.cells3 0
  go_wp2
  have HB := Aside0.mk (hS.blk 0)
  have HR := Aside0.mk (show Kd.string.C W1 (some ⟨ga, 0, none⟩) p prev by
    have h := Kd.R_take (m := prev.length) (hS.row 1) (by simp)
    rw [List.take_left'  rfl] at h
    have h2 := (Kd.R_reads' h).2.2
    rw [HP.out.2] at h2
    exact h2)
  have HL1 := Aside0.mk (show (([] : List ByteArray).length + p) * 16 ≤ 140737488355328 by simp; omega)
  have HL2 := Aside0.mk (show (prev.length + 1) * 16 ≤ 140737488355328 by omega)
  obtain ⟨z, hz⟩ : ∃ z, last ++ s1 = z := ⟨_, rfl⟩
  rw [hz]
  obtain ⟨ys, hys⟩ : ∃ ys, prev ++ [z] = ys := ⟨_, rfl⟩
  have HY := Aside0.mk hys
  have HZ := Aside0.mk hz
  have hpc : (p : Int) ≤ (c : Int) := by omega
  have hca0 : (W1.alloc (.cells #[] 9)).cell? ⟨g, 1, none⟩ = some (.slice (some ⟨ga, 0, none⟩) n c) := (blk_cell (by exact bl HB) 1).trans rfl
  have hca1 : (W1.alloc (.cells #[.string z] 9)).cell? ⟨g, 1, none⟩ = some (.slice (some ⟨ga, 0, none⟩) n c) := (blk_cell (by exact bl HB) 1).trans rfl
  have hca2 : ((W1.alloc (.cells #[] 9)).alloc (.cells #[.string z] 9)).cell? ⟨g, 1, none⟩ = some (.slice (some ⟨ga, 0, none⟩) n c) := (blk_cell (by exact bl HB) 1).trans rfl
  have hca3 : ((W1.alloc (.cells #[.string z] 9)).alloc (.cells #[] 9)).cell? ⟨g, 1, none⟩ = some (.slice (some ⟨ga, 0, none⟩) n c) := (blk_cell (by exact bl HB) 1).trans rfl
  clear hz hys hc0 hc2
  go_region_law (
   (refine step_list ?_
    first
    | (
      have hS1 := Sp.lit Kd.string 9 (Sp.lit Kd.string 9 hS [] [] _ rfl (Reps.none _ _) (by simp)) [z] [.string z] (W1.heap.size + 1) (by simp) (reps_one rfl rfl) (by simp)
      refine sp_apps Kd.string hS1 1 rfl (.tmp 46) (.tmp 57) 38 9 (.string ByteArray.empty) 16 (by rfl) Try.underlying38 infoS rfl (by decide) (by decide) (.slice (some ⟨W1.heap.size, 0, none⟩) 0 0) [] prev (some ⟨ga, 0, none⟩) p c (by rfl) (by rfl) (by rfl) (by exact cl_ HR) (fun _ _ h => h) HL1.out prev (List.nil_append _) _ (fun _ _ => rfl) ?_
      intro A2 c2 w1 hS
      refine list_K ?_
      replace HB := Aside0.mk (hS.blk 2))
    | (
      have hS1 := (Sp.lit Kd.string 9 (Sp.lit Kd.string 9 (hS) [z] [.string z] _ rfl (reps_one rfl rfl) (by simp)) [] [] (W1.heap.size + 1) (by simp) (Reps.none _ _) (by simp))
      refine sp_apps Kd.string hS1 0 rfl (.tmp 46) (.tmp 57) 38 9 (.string ByteArray.empty) 16 (by rfl) Try.underlying38 infoS rfl (by decide) (by decide) (.slice (some ⟨W1.heap.size + 1, 0, none⟩) 0 0) [] prev (some ⟨ga, 0, none⟩) p c (by rfl) (by rfl) (by rfl) (by exact cl_ HR) (fun _ _ h => h) HL1.out prev (List.nil_append _) _ (fun _ _ => rfl) ?_
      intro A2 c2 w1 hS
      refine list_K ?_
      replace HB := Aside0.mk (hS.blk 2))
    | (
      have hS1 := Sp.lit Kd.string 9 hS [] [] _ rfl (Reps.none _ _) (by simp)
      refine sp_apps Kd.string hS1 0 rfl (.tmp 46) (.tmp 57) 38 9 (.string ByteArray.empty) 16 (by rfl) Try.underlying38 infoS rfl (by decide) (by decide) (.slice (some ⟨W1.heap.size, 0, none⟩) 0 0) [] prev (some ⟨ga, 0, none⟩) p c (by rfl) (by rfl) (by rfl) (by exact cl_ HR) (fun _ _ h => h) HL1.out prev (List.nil_append _) _ (fun _ _ => rfl) ?_
      intro A2 c2 w1 hS
      refine list_K ?_
      replace HB := Aside0.mk (hS.blk 1))
    | (
      have hS1 := Sp.lit Kd.string 9 (hS) [z] [.string z] _ rfl (reps_one rfl rfl) (by simp)
      refine sp_apps Kd.string hS1 1 rfl (.tmp 58) (.tmp 60) 38 9 (.string ByteArray.empty) 16 (by rfl) Try.underlying38 infoS rfl (by decide) (by decide) (.slice A2 prev.length c2) prev [z] (some ⟨w1.heap.size, 0, none⟩) 1 1 (by rfl) (by rfl) (by rfl) (by exact cl_ (Aside0.mk (hS1.reads 0))) (fun _ _ h => h) HL2.out ys HY.out _ (fun _ _ => rfl) ?_
      intro A2 c2 w1 hS
      refine list_K ?_
      replace HB := Aside0.mk (hS.blk 2)
      have hf := hS.fz 2
      have hc1 := (hS.cells3 2).2.1)
    | (
      skip
      refine sp_apps Kd.string hS 1 rfl (.tmp 58) (.tmp 60) 38 9 (.string ByteArray.empty) 16 (by rfl) Try.underlying38 infoS rfl (by decide) (by decide) (.slice A2 prev.length c2) prev [z] (some ⟨W1.heap.size + 1, 0, none⟩) 1 1 (by rfl) (by rfl) (by rfl) (by exact cl_ (Aside0.mk (hS.reads 0))) (fun _ _ h => h) HL2.out ys HY.out _ (fun _ _ => rfl) ?_
      intro A2 c2 w1 hS
      refine list_K ?_
      replace HB := Aside0.mk (hS.blk 2)
      have hf := hS.fz 2
      have hc1 := (hS.cells3 2).2.1)
    | (
      skip
      refine sp_apps Kd.string hS 0 rfl (.tmp 58) (.tmp 60) 38 9 (.string ByteArray.empty) 16 (by rfl) Try.underlying38 infoS rfl (by decide) (by decide) (.slice A2 prev.length c2) prev [z] (some ⟨W1.heap.size, 0, none⟩) 1 1 (by rfl) (by rfl) (by rfl) (by exact cl_ (Aside0.mk (hS.reads 1))) (fun _ _ h => h) HL2.out ys HY.out _ (fun _ _ => rfl) ?_
      intro A2 c2 w1 hS
      refine list_K ?_
      replace HB := Aside0.mk (hS.blk 2)
      have hf := hS.fz 2
      have hc1 := (hS.cells3 2).2.1)))
  all_goals
    go_wp2
    go_ret
    refine ⟨rfl, ?_⟩
    obtain rfl := HY.out
    obtain rfl := HZ.out
    first
    | exact rs_shut (A := A2) (c := c2) ((hS.set_ 2 1 (.slice A2 (prev ++ [last ++ s1]).length c2)).sel [2, 0])
    | exact rs_shut (A := A2) (c := c2) ((hS.set_ 2 1 (.slice A2 (prev ++ [last ++ s1]).length c2)).sel [2, 1])
end Go.Proofs.Ytpiejdncoeldeaa.Rs
