/- What (*order.Sorter).Reset and order.New come to, walked by hand. -/
import Derived.Test.YtpiejdncoeldeaaSorD
namespace Go.Proofs.Ytpiejdncoeldeaa.Hand
open Go.RowKit Go.Proofs.Ytpiejdncoeldeaa.PA Go.Proofs.YtpiejdncoeldeaaW.PrintWords Go.Proofs.YtpiejdncoeldeaaW.PrintLast Go.Proofs.YtpiejdncoeldeaaW.PrintMore
set_option linter.unusedVariables false

theorem So.cleared {w0 w : World} {g : Nat} {most over : Int} {last now : List Int} {begun : Bool} {Al An : Option Addr} {cl cn : Nat} (hB : w.heap[g]? = some (.cells #[.int .i64 most, .slice Al last.length cl, .slice An now.length cn, .bool begun, .int .i64 over] 47 (0, 0)))
    (hg : w0.heap.size ≤ g) (hl : (Kd.int .u8).R 5 w w0.heap.size (fun _ => True) (.slice Al last.length cl) last) (hn : (Kd.int .u8).R 5 w w0.heap.size (fun _ => True) (.slice An now.length cn) now) (hp : ∀ k, (Value.slice An now.length cn).ownBlock = some k → some k ≠ (Value.slice Al last.length cl).ownBlock) :
    So w0 (((((w.setCell ⟨g, 0, none⟩ (.int .i64 most)).setCell ⟨g, 1, none⟩ (.slice Al 0 cl)).setCell ⟨g, 2, none⟩ (.slice An 0 cn)).setCell ⟨g, 3, none⟩ (.bool false)).setCell ⟨g, 4, none⟩ (.int .i64 0)) g most [] [] false 0 := by
  have b0 := blk_put hB 0 (.int .i64 most) rfl
  have b1 := blk_put b0 1 (.slice Al 0 cl) rfl
  have b2 := blk_put b1 2 (.slice An 0 cn) rfl
  have b3 := blk_put b2 3 (.bool false) rfl
  have b4 := blk_put b3 4 (.int .i64 0) rfl
  have l0 : (Kd.int .u8).R 5 w w0.heap.size (fun _ => True) (.slice Al 0 cl) [] := Kd.R_take hl (Nat.zero_le _)
  have n0 : (Kd.int .u8).R 5 w w0.heap.size (fun _ => True) (.slice An 0 cn) [] := Kd.R_take hn (Nat.zero_le _)
  refine ⟨_, _, b4, hg, Kd.R_set (Kd.R_set (Kd.R_set (Kd.R_set (Kd.R_set l0 hB (by decide) 0 _) b0 (by decide) 1 _) b1 (by decide) 2 _) b2 (by decide) 3 _) b3 (by decide) 4 _, Kd.R_set (Kd.R_set (Kd.R_set (Kd.R_set (Kd.R_set n0 hB (by decide) 0 _) b0 (by decide) 1 _) b1 (by decide) 2 _) b2 (by decide) 3 _) b3 (by decide) 4 _, ?_⟩
  intro k hk
  cases An with
  | none => cases hk
  | some a =>
    cases Al with
    | none => intro e; cases e
    | some a2 => exact hp k hk
set_option maxHeartbeats 4000000 in
set_option maxRecDepth 100000 in
theorem reset_any (g : Nat) (most : Int) (last now : List Int) (begun : Bool) (over : Int) (w0 w : World) (hB : Below w0.heap.size w0 w) (hS : So w0 w g most last now begun over) :
    Calls Try.prog 17 #[.pointer (some ⟨g, 0, none⟩)] w fun e w' => e = .returned (.tuple #[]) ∧ So w0 w' g most [] [] false 0 ∧ Below w0.heap.size w0 w' := by
  have HB := Aside0.mk hB
  obtain ⟨vl, vn, hb0, hge, hl, hn, hap⟩ := hS
  obtain ⟨An, cn, rfl⟩ := Kd.R_slice hn
  obtain ⟨Al, cl, rfl⟩ := Kd.R_slice hl
  have BG := Aside0.mk hb0
  have HL := Aside0.mk hl
  have HN := Aside0.mk hn
  have HP := Aside0.mk hap
  have GE := Aside0.mk hge
  have hc0 : w.cell? ⟨g, 0, none⟩ = some (.int .i64 most) := (blk_cell hb0 0).trans rfl
  have hc1 : w.cell? ⟨g, 1, none⟩ = some (.slice Al last.length cl) := (blk_cell hb0 1).trans rfl
  have hc2 : w.cell? ⟨g, 2, none⟩ = some (.slice An now.length cn) := (blk_cell hb0 2).trans rfl
  have hc3 : w.cell? ⟨g, 3, none⟩ = some (.bool begun) := (blk_cell hb0 3).trans rfl
  have hc4 : w.cell? ⟨g, 4, none⟩ = some (.int .i64 over) := (blk_cell hb0 4).trans rfl
  have hf0 : w.frozen? ⟨g, 0, none⟩ = false := blk_frozen hb0 0
  have hf1 : w.frozen? ⟨g, 1, none⟩ = false := blk_frozen hb0 1
  have hf2 : w.frozen? ⟨g, 2, none⟩ = false := blk_frozen hb0 2
  have hf3 : w.frozen? ⟨g, 3, none⟩ = false := blk_frozen hb0 3
  have hf4 : w.frozen? ⟨g, 4, none⟩ = false := blk_frozen hb0 4
  clear hB hb0 hl hn hap hge
  go_enter Try.func17, Try.ntmps17
  go_wp2
  go_region
  go_end0
  exact ⟨rfl, (So.cleared BG.out GE.out HL.out HN.out HP.out).drew, by repeat (first | (with_reducible first | exact HB.out | apply below_alloc | apply pw_below_drewN | apply below_drew1 | refine below_set ?_ GE.out) | exact HB.out)⟩
set_option maxHeartbeats 8000000 in
set_option maxRecDepth 100000 in
theorem new_any (a0 : Int) (w0 w : World) (hB : Below w0.heap.size w0 w) :
    Calls Try.prog 11 #[.int .i64 a0] w fun e w' => ∃ g : Nat, e = .returned (.pointer (some ⟨g, 0, none⟩)) ∧ So w0 w' g (mn (mx a0 0) 65536) [] [] false 0 ∧ Below w0.heap.size w0 w' := by
  have hu47 := Try.underlying47
  have HW0 := Aside0.mk hB.size
  have HB := Aside0.mk hB
  clear hB
  obtain ⟨ji2, hji2⟩ : ∃ j_ : Int, (mx a0 0) = j_ := ⟨_, rfl⟩
  rw [hji2]
  have hji2l : 0 ≤ ji2 := by (rw [← hji2]; unfold mx; (repeat' split) <;> omega)
  have hji2_ : (if a0 < 0 then 0 else a0) = ji2 := hji2
  obtain ⟨ji3, hji3⟩ : ∃ j_ : Int, (mn (ji2) 65536) = j_ := ⟨_, rfl⟩
  rw [hji3]
  have hji3_ : (if 65536 < (ji2) then 65536 else (ji2)) = ji3 := hji3
  go_enter Try.func11, Try.ntmps11
  go_wp2_with (first
    | ((with_reducible refine gate_dst (N := 7) rfl ?_); refine box_event ?hg (N := 7) ?hd (cs := #[.int .i64 ji3, .slice none 0 0, .slice none 0 0, .bool false, .int .i64 0]) (t := 47) ?hr ?_; (case hd => rfl); (case hg => rfl); (case hr => first | (go_simp; done) | (go_simp; rfl)); intro gb hg w4 hbox hb
       have n1_ := Aside0.mk (below_step (by repeat (first | (with_reducible first | exact HB.out | apply below_alloc | apply pw_below_drewN | apply below_drew1) | exact HB.out)) hb); have n2_ := Aside0.mk hbox
       have n3_ := Aside0.mk ((by rw [hg]; exact (below_size (by repeat (first | (with_reducible first | exact HB.out | apply below_alloc | apply pw_below_drewN | apply below_drew1) | exact HB.out)))) : w0.heap.size ≤ gb)
       clear HB; have HB := n1_; have BK := n2_; have GE := n3_; clear n1_ n2_ n3_; clear hb hbox hg))
  go_ret
  exact ⟨_, rfl, ⟨.slice none 0 0, .slice none 0 0, by (with_reducible repeat (first | refine blk_drewN ?_ _ | refine blk_drew ?_ | refine blk_alloc ?_ _)); exact BK.out, GE.out, Kd.R_nil _ _ _ _ _, Kd.R_nil _ _ _ _ _, fun k hk => by simp [Value.ownBlock] at hk⟩, by repeat (first | (with_reducible first | exact HB.out | apply below_alloc | apply pw_below_drewN | apply below_drew1 | refine below_set ?_ GE.out) | exact HB.out)⟩
end Go.Proofs.Ytpiejdncoeldeaa.Hand
