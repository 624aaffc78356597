/- What (*order.Sorter).Push comes to, walked by hand. -/
import Derived.Test.YtpiejdncoeldeaaSorD
namespace Go.Proofs.Ytpiejdncoeldeaa.Hand
open Go.RowKit Go.Proofs.Ytpiejdncoeldeaa.PA Go.Proofs.YtpiejdncoeldeaaW.PrintWords Go.Proofs.YtpiejdncoeldeaaW.PrintLast Go.Proofs.YtpiejdncoeldeaaW.PrintMore
set_option linter.unusedVariables false

set_option maxHeartbeats 4000000 in
set_option maxRecDepth 100000 in
theorem push_over (g : Nat) (most : Int) (last now : List Int) (begun : Bool) (over b : Int) (w0 w : World) (hB : Below w0.heap.size w0 w) (hS : So w0 w g most last now begun over) (ho : over ≠ 0) :
    Calls Try.prog 13 #[.pointer (some ⟨g, 0, none⟩), .int .u8 b] w fun e w' => e = .returned (.int .i64 over) ∧ So w0 w' g most last now begun over ∧ Below w0.heap.size w0 w' := by
  have hS' := Aside0.mk hS
  have HB := Aside0.mk hB
  obtain ⟨vl, vn, hb0, hge, hl, hn, hap⟩ := hS
  have hc4 : w.cell? ⟨g, 4, none⟩ = some (.int .i64 over) := (blk_cell hb0 4).trans rfl
  have ho1 : (over == 0) = false := beq_eq_false_iff_ne.2 ho
  clear hB hb0 hl hn hap
  go_enter Try.func13, Try.ntmps13
  go_wp2
  go_region
  go_wp2
  go_ret
  exact ⟨rfl, hS'.out, by repeat (first | (with_reducible first | exact HB.out | apply below_alloc | apply pw_below_drewN | apply below_drew1) | exact HB.out)⟩
set_option maxHeartbeats 4000000 in
set_option maxRecDepth 100000 in
theorem push_full (g : Nat) (most : Int) (last now : List Int) (begun : Bool) (b : Int) (w0 w : World) (hB : Below w0.heap.size w0 w) (hS : So w0 w g most last now begun 0) (ho : (now.length : Int) = most) :
    Calls Try.prog 13 #[.pointer (some ⟨g, 0, none⟩), .int .u8 b] w fun e w' => e = .returned (.int .i64 11) ∧ So w0 w' g most last now begun 11 ∧ Below w0.heap.size w0 w' := by
  have HB := Aside0.mk hB
  obtain ⟨vl, vn, hb0, hge, hl, hn, hap⟩ := hS
  obtain ⟨An, cn, rfl⟩ := Kd.R_slice hn
  have BG := Aside0.mk hb0
  have HL := Aside0.mk hl
  have HN := Aside0.mk hn
  have HP := Aside0.mk hap
  have GE := Aside0.mk hge
  have hc0 : w.cell? ⟨g, 0, none⟩ = some (.int .i64 most) := (blk_cell hb0 0).trans rfl
  have hc2 : w.cell? ⟨g, 2, none⟩ = some (.slice An now.length cn) := (blk_cell hb0 2).trans rfl
  have hc4 : w.cell? ⟨g, 4, none⟩ = some (.int .i64 0) := (blk_cell hb0 4).trans rfl
  have hf4 : w.frozen? ⟨g, 4, none⟩ = false := blk_frozen hb0 4
  have ho1 : ((now.length : Int) == most) = true := beq_iff_eq.2 ho
  clear hB hb0 hl hn hap hge ho
  go_enter Try.func13, Try.ntmps13
  go_wp2
  go_region
  go_wp2
  go_ret
  exact ⟨rfl, ⟨vl, _, blk_put (cs := #[.int .i64 most, vl, .slice An now.length cn, .bool begun, .int .i64 0]) BG.out 4 _ rfl, GE.out, Kd.R_set HL.out BG.out (by decide) 4 _, Kd.R_set HN.out BG.out (by decide) 4 _, HP.out⟩, by repeat (first | (with_reducible first | exact HB.out | apply below_alloc | apply pw_below_drewN | apply below_drew1 | refine below_set ?_ GE.out) | exact HB.out)⟩
set_option maxHeartbeats 4000000 in
set_option maxRecDepth 100000 in
theorem push_more (g : Nat) (most : Int) (last now : List Int) (begun : Bool) (b : Int) (w0 w : World) (hB : Below w0.heap.size w0 w) (hS : So w0 w g most last now begun 0) (ho : (now.length : Int) ≠ most) (hlen : now.length ≤ 100000) :
    Calls Try.prog 13 #[.pointer (some ⟨g, 0, none⟩), .int .u8 b] w fun e w' => e = .returned (.int .i64 0) ∧ So w0 w' g most last (now ++ [b]) begun 0 ∧ Below w0.heap.size w0 w' := by
  have HB := Aside0.mk hB
  obtain ⟨vl, vn, hb0, hge, hl, hn, hap⟩ := hS
  obtain ⟨An, cn, rfl⟩ := Kd.R_slice hn
  obtain ⟨Al, cl, rfl⟩ := Kd.R_slice hl
  have BG := Aside0.mk hb0
  have HL := Aside0.mk hl
  have HN := Aside0.mk hn
  have HP := Aside0.mk hap
  have GE := Aside0.mk hge
  have BGd : w.drew.heap[g]? = some (.cells #[.int .i64 most, .slice Al last.length cl, .slice An now.length cn, .bool begun, .int .i64 0] 47 (0, 0)) := hb0
  have HLd := Kd.R_drew hl
  have HNd := Kd.R_drew hn
  have HBd : Below w0.heap.size w0 w.drew := below_drew1 hB
  have hc0 : w.cell? ⟨g, 0, none⟩ = some (.int .i64 most) := (blk_cell hb0 0).trans rfl
  have hc2 : w.cell? ⟨g, 2, none⟩ = some (.slice An now.length cn) := (blk_cell hb0 2).trans rfl
  have hc4 : w.cell? ⟨g, 4, none⟩ = some (.int .i64 0) := (blk_cell hb0 4).trans rfl
  have ho1 : ((now.length : Int) == most) = false := beq_eq_false_iff_ne.2 ho
  clear hB hb0 hl hn hap hge ho
  go_enter Try.func13, Try.ntmps13
  go_wp2
  go_region
  clear HB BG HL HN hc0 hc2 hc4
  generalize w.drew = wd at *
  have HB := Aside0.mk HBd
  have BG := Aside0.mk BGd
  have HL := Aside0.mk HLd
  have HN := Aside0.mk HNd
  clear HBd BGd HLd HNd
  have hc2 : wd.cell? ⟨g, 2, none⟩ = some (.slice An now.length cn) := (blk_cell BG.out 2).trans rfl
  have hc4 : wd.cell? ⟨g, 4, none⟩ = some (.int .i64 0) := (blk_cell BG.out 4).trans rfl
  go_wp2_with (first
    | ((with_reducible refine gate_builtin (b := .append) (xs := #[.tmp 34, .tmp 36]) rfl ?_); at_builtin
       refine Kd.R_append (Kd.int .u8) (w0 := w0) w0.heap.size rfl (.tmp 34) (.tmp 36) 45 5 (.int .u8 0) 1 rfl Try.underlying45 info5 rfl (by decide) (by omega) (.slice An now.length cn) now b [.int .u8 b] (fun _ => True) (fun _ => False) rfl rfl ?aP (fun _ hk => hk.elim) ?aF ?aO ?aB ?aS ?aL ?_
       (case aP => exact rfl); (case aB => exact (by repeat (first | (with_reducible first | exact HB.out | apply below_alloc | apply pw_below_drewN | apply below_drew1) | exact HB.out))); (case aF => exact (fun _ _ => trivial)); (case aO => exact (by (with_reducible repeat (first | apply Kd.R_alloc | apply Kd.R_drewN | apply Kd.R_drew)); exact HN.out)); (case aS => exact (below_size (by repeat (first | (with_reducible first | exact HB.out | apply below_alloc | apply pw_below_drewN | apply below_drew1) | exact HB.out)))); (case aL => omega)
       intro v2 w2 ho hb hg2 hat
       have n0_ := Aside0.mk (blk_grown (g := g) (o := .cells #[.int .i64 most, .slice Al last.length cl, .slice An now.length cn, .bool begun, .int .i64 0] 47 (0, 0)) (by (with_reducible repeat (first | refine blk_drewN ?_ _ | refine blk_drew ?_ | refine blk_alloc ?_ _)); exact BG.out) hg2 (Kd.R_ne HN.out BG.out (by decide)))
       have n1_ := Aside0.mk (Kd.R_grown2 (d := Kd.int .u8) (v := .slice Al last.length cl) (xs := last) (by (with_reducible repeat (first | apply Kd.R_alloc | apply Kd.R_drewN | apply Kd.R_drew)); exact HL.out) rfl hg2 HP.out)
       have n4_ : Aside0 (∀ k, v2.ownBlock = some k → some k ≠ (Value.slice Al last.length cl).ownBlock) := ⟨by
         rcases hat with hat | ⟨q, hq, hlt⟩
         · rw [hat]; exact HP.out
         · intro k hk e
           rw [hq] at hk
           obtain rfl := Option.some.inj hk
           have h1 := own_lt (Kd.own_of_R HL.out) q e.symm
           have h2 : wd.heap.size ≤ q := Nat.le_trans (by simp) hlt
           omega⟩
       obtain ⟨A2, c2, rfl⟩ := Kd.R_slice1 ho (by simp)
       have n2_ := Aside0.mk hb; have n3_ := Aside0.mk ho
       clear HB BG HL HN HP hc2 hc4; have BG := n0_; have HL := n1_; have HB := n2_; have HN := n3_; have HP := n4_; clear n0_ n1_ n2_ n3_ n4_; clear ho hb hg2 hat
       have he4 : w2.cell? ⟨g, 4, none⟩ = some (.int .i64 0) := (blk_cell BG.out 4).trans rfl
       have hf2 : w2.frozen? ⟨g, 2, none⟩ = false := blk_frozen BG.out 2
       have he2 : w2.cell? ⟨g, 2, none⟩ = some (.slice An now.length cn) := (blk_cell BG.out 2).trans rfl))
  go_ret
  exact ⟨rfl, ⟨_, _, blk_put (cs := #[.int .i64 most, .slice Al last.length cl, .slice An now.length cn, .bool begun, .int .i64 0]) BG.out 2 _ rfl, GE.out, Kd.R_set HL.out BG.out (by decide) 2 _, (by have h_ := Kd.R_set HN.out BG.out (by decide) 2 (Value.slice (some A2) (now.length + 1) c2); rwa [show (now ++ [b]).length = now.length + 1 by simp] at h_), (by have h_ := HP.out; rwa [show (now ++ [b]).length = now.length + 1 by simp] at h_)⟩, by repeat (first | (with_reducible first | exact HB.out | apply below_alloc | apply pw_below_drewN | apply below_drew1 | refine below_set ?_ GE.out) | exact HB.out)⟩
end Go.Proofs.Ytpiejdncoeldeaa.Hand
