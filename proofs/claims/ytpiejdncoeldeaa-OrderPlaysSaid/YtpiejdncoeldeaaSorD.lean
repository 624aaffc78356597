/- The state of order.Sorter, as blocks: its two texts lie in slices of its own. -/
import Derived.Test.YtpiejdncoeldeaaPAx1
namespace Go.Proofs.Ytpiejdncoeldeaa.Hand
open Go.RowKit Go.Proofs.Ytpiejdncoeldeaa.PA Go.Proofs.YtpiejdncoeldeaaW.PrintWords Go.Proofs.YtpiejdncoeldeaaW.PrintLast Go.Proofs.YtpiejdncoeldeaaW.PrintMore
set_option linter.unusedVariables false

theorem info5 : (Try.prog.info? 5).map (fun i => (i.zero, i.size, i.bytes)) = some (some (.int .u8 0), 1, 1) := by kernel_rfl
/-- The state: the bound, the element ahead, this one, whether there was one, the error. -/
def So (w0 w : World) (g : Nat) (most : Int) (last now : List Int) (begun : Bool) (over : Int) : Prop :=
  ∃ vl vn, w.heap[g]? = some (.cells #[.int .i64 most, vl, vn, .bool begun, .int .i64 over] 47 (0, 0)) ∧ w0.heap.size ≤ g ∧ (Kd.int .u8).R 5 w w0.heap.size (fun _ => True) vl last ∧ (Kd.int .u8).R 5 w w0.heap.size (fun _ => True) vn now ∧
    (∀ k, vn.ownBlock = some k → some k ≠ vl.ownBlock)
theorem So.below {w0 w w1 : World} {g : Nat} {most : Int} {last now : List Int} {begun : Bool} {over : Int} (h : So w0 w g most last now begun over) (hb : Below w.heap.size w w1) : So w0 w1 g most last now begun over := by
  obtain ⟨vl, vn, h1, h2, h3, h4, h5⟩ := h
  exact ⟨vl, vn, blk_below h1 hb, h2, Kd.R_below h3 hb, Kd.R_below h4 hb, h5⟩
theorem So.drew {w0 w : World} {g : Nat} {most : Int} {last now : List Int} {begun : Bool} {over : Int} (h : So w0 w g most last now begun over) : So w0 w.drew g most last now begun over := h.below (below_drew1 (Below.refl _ _))
theorem swap_apart {vl vn : Value} (h : ∀ k, vn.ownBlock = some k → some k ≠ vl.ownBlock) : ∀ k, vl.ownBlock = some k → some k ≠ vn.ownBlock := fun k hk e => h k e.symm hk.symm
/-- Behind an element's end: this one is the one ahead. -/
theorem So.turn {w0 w : World} {g : Nat} {most : Int} {last now : List Int} {begun : Bool} {Al An : Option Addr} {cl cn : Nat} (hB : w.heap[g]? = some (.cells #[.int .i64 most, .slice Al last.length cl, .slice An now.length cn, .bool begun, .int .i64 0] 47 (0, 0)))
    (hg : w0.heap.size ≤ g) (hl : (Kd.int .u8).R 5 w w0.heap.size (fun _ => True) (.slice Al last.length cl) last) (hn : (Kd.int .u8).R 5 w w0.heap.size (fun _ => True) (.slice An now.length cn) now) (hp : ∀ k, (Value.slice An now.length cn).ownBlock = some k → some k ≠ (Value.slice Al last.length cl).ownBlock) :
    So w0 (((w.setCell ⟨g, 1, none⟩ (.slice An now.length cn)).setCell ⟨g, 2, none⟩ (.slice Al 0 cl)).setCell ⟨g, 3, none⟩ (.bool true)) g most now [] true 0 := by
  have b1 := blk_put hB 1 (.slice An now.length cn) rfl
  have b2 := blk_put b1 2 (.slice Al 0 cl) rfl
  have b3 := blk_put b2 3 (.bool true) rfl
  have l0 : (Kd.int .u8).R 5 w w0.heap.size (fun _ => True) (.slice Al 0 cl) [] := Kd.R_take hl (Nat.zero_le _)
  refine ⟨_, _, b3, hg, Kd.R_set (Kd.R_set (Kd.R_set hn hB (by decide) 1 _) b1 (by decide) 2 _) b2 (by decide) 3 _, Kd.R_set (Kd.R_set (Kd.R_set l0 hB (by decide) 1 _) b1 (by decide) 2 _) b2 (by decide) 3 _, ?_⟩
  intro k hk e
  cases Al with
  | none => cases hk
  | some a => exact hp k e.symm hk.symm
end Go.Proofs.Ytpiejdncoeldeaa.Hand
