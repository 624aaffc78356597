/-
  No cell of these rows narrows 'for every input' (looked for: loops, veiled, ifaces, maps, wideKeys, modest, calm, conditions, laid).
  DERIVED. THE GIVEN ROWS OF THIS SEAT. 8 by the template 'for every input the law returns true; each argument reads behind the call as it read before'; 0 by the template 'total and deterministic' (their statements: YtomaajagncjiiaaTotals.lean).
  GIVEN WITH THE SEED: the statements are not yours to turn. If you find one false, say at which input.
  Laid BY PROGRAM, IN A SANDBOX (cutbox-rows.mjs): the forced cells as the released guide's own fill.sh prints them over the translation a7643fea3d2a2728… (all of the seat's roots in one cut). By AI agents, Wed Nov 11 2026. No macro, syntax, notation, axiom, sorry.
-/
import Derived.Test.YtomaajagncjiiaaChecked
import GoSem.Claim
import GoSem.ClaimJoined
import GoSem.ClaimMapViews
import Derived.JoinedTies
import Derived.KernelRfl
namespace Go.Proofs.Ytomaajagncjiiaa
/- THE CELL 'sum', in the pinned program and in every row, IS THE sha256 OF THE DUMP (.gsa) THAT YtomaajagncjiiaaProg.lean LOADS. Nothing in Lean hashes anything: it is a label: what it is worth is what the hold of that sum in a sandbox is worth. -/
noncomputable def Try.pinned : Pinned := { name := "ytomaajagncjiiaa", sum := "a7643fea3d2a2728c784bd7866015d0efd057857339c72276c3bd7e319f46432", checked := Try.checked }
namespace Rows
def none {H : Type} : Left H := { results := [], args := [] }

/-- 'gantletlaw09.EventWhole': WHATEVER THE INPUT: true; the input reads as it did. -/
def eventWholeSpec : ChangeSpec := { name := "eventWhole", fn := fun _ => fun
  | [d1, d2] => { results := [.lit (.bool true)], args := [d1, d2] }
  | _ => none }
def eventWholeRow : OpenClaim := { program := "ytomaajagncjiiaa", sum := "a7643fea3d2a2728c784bd7866015d0efd057857339c72276c3bd7e319f46432", func := "gantlet/gantletlaw09.EventWhole", spec := "eventWhole", recurses := true, apart := false }
def EventWholeSaid : Prop := eventWholeRow.holds Try.pinned (OpenSpec.ofChange eventWholeSpec)

/-- ITS FALSE NEIGHBOUR: 'it returns false'. Refute it at one input. -/
def eventWholeWrong : ChangeSpec := { name := "eventWhole", fn := fun _ => fun
  | [d1, d2] => { results := [.lit (.bool false)], args := [d1, d2] }
  | _ => none }
def EventWholeWrongFalsely : Prop := eventWholeRow.holds Try.pinned (OpenSpec.ofChange eventWholeWrong)

/-- 'gantletlaw09.EventFront': WHATEVER THE INPUT: true; the input reads as it did. -/
def eventFrontSpec : ChangeSpec := { name := "eventFront", fn := fun _ => fun
  | [d1, d2, d3] => { results := [.lit (.bool true)], args := [d1, d2, d3] }
  | _ => none }
def eventFrontRow : OpenClaim := { program := "ytomaajagncjiiaa", sum := "a7643fea3d2a2728c784bd7866015d0efd057857339c72276c3bd7e319f46432", func := "gantlet/gantletlaw09.EventFront", spec := "eventFront", apart := false }
def EventFrontSaid : Prop := eventFrontRow.holds Try.pinned (OpenSpec.ofChange eventFrontSpec)

/-- ITS FALSE NEIGHBOUR: 'it returns false'. Refute it at one input. -/
def eventFrontWrong : ChangeSpec := { name := "eventFront", fn := fun _ => fun
  | [d1, d2, d3] => { results := [.lit (.bool false)], args := [d1, d2, d3] }
  | _ => none }
def EventFrontWrongFalsely : Prop := eventFrontRow.holds Try.pinned (OpenSpec.ofChange eventFrontWrong)

/-- 'gantletlaw09.EventNested': WHATEVER THE INPUT: true; the input reads as it did. -/
def eventNestedSpec : ChangeSpec := { name := "eventNested", fn := fun _ => fun
  | [d1, d2] => { results := [.lit (.bool true)], args := [d1, d2] }
  | _ => none }
def eventNestedRow : OpenClaim := { program := "ytomaajagncjiiaa", sum := "a7643fea3d2a2728c784bd7866015d0efd057857339c72276c3bd7e319f46432", func := "gantlet/gantletlaw09.EventNested", spec := "eventNested", apart := false }
def EventNestedSaid : Prop := eventNestedRow.holds Try.pinned (OpenSpec.ofChange eventNestedSpec)

/-- ITS FALSE NEIGHBOUR: 'it returns false'. Refute it at one input. -/
def eventNestedWrong : ChangeSpec := { name := "eventNested", fn := fun _ => fun
  | [d1, d2] => { results := [.lit (.bool false)], args := [d1, d2] }
  | _ => none }
def EventNestedWrongFalsely : Prop := eventNestedRow.holds Try.pinned (OpenSpec.ofChange eventNestedWrong)

/-- 'gantletlaw09.EventEnds': WHATEVER THE INPUT: true; the input reads as it did. -/
def eventEndsSpec : ChangeSpec := { name := "eventEnds", fn := fun _ => fun
  | [d1, d2, d3] => { results := [.lit (.bool true)], args := [d1, d2, d3] }
  | _ => none }
def eventEndsRow : OpenClaim := { program := "ytomaajagncjiiaa", sum := "a7643fea3d2a2728c784bd7866015d0efd057857339c72276c3bd7e319f46432", func := "gantlet/gantletlaw09.EventEnds", spec := "eventEnds", apart := false }
def EventEndsSaid : Prop := eventEndsRow.holds Try.pinned (OpenSpec.ofChange eventEndsSpec)

/-- ITS FALSE NEIGHBOUR: 'it returns false'. Refute it at one input. -/
def eventEndsWrong : ChangeSpec := { name := "eventEnds", fn := fun _ => fun
  | [d1, d2, d3] => { results := [.lit (.bool false)], args := [d1, d2, d3] }
  | _ => none }
def EventEndsWrongFalsely : Prop := eventEndsRow.holds Try.pinned (OpenSpec.ofChange eventEndsWrong)

/-- 'gantletlaw09.EventHeads': WHATEVER THE INPUT: true; the input reads as it did. -/
def eventHeadsSpec : ChangeSpec := { name := "eventHeads", fn := fun _ => fun
  | [d] => { results := [.lit (.bool true)], args := [d] }
  | _ => none }
def eventHeadsRow : OpenClaim := { program := "ytomaajagncjiiaa", sum := "a7643fea3d2a2728c784bd7866015d0efd057857339c72276c3bd7e319f46432", func := "gantlet/gantletlaw09.EventHeads", spec := "eventHeads", apart := false }
def EventHeadsSaid : Prop := eventHeadsRow.holds Try.pinned (OpenSpec.ofChange eventHeadsSpec)

/-- ITS FALSE NEIGHBOUR: 'it returns false'. Refute it at one input. -/
def eventHeadsWrong : ChangeSpec := { name := "eventHeads", fn := fun _ => fun
  | [d] => { results := [.lit (.bool false)], args := [d] }
  | _ => none }
def EventHeadsWrongFalsely : Prop := eventHeadsRow.holds Try.pinned (OpenSpec.ofChange eventHeadsWrong)

/-- 'gantletlaw09.EventOne': WHATEVER THE INPUT: true; the input reads as it did. -/
def eventOneSpec : ChangeSpec := { name := "eventOne", fn := fun _ => fun
  | [d1, d2] => { results := [.lit (.bool true)], args := [d1, d2] }
  | _ => none }
def eventOneRow : OpenClaim := { program := "ytomaajagncjiiaa", sum := "a7643fea3d2a2728c784bd7866015d0efd057857339c72276c3bd7e319f46432", func := "gantlet/gantletlaw09.EventOne", spec := "eventOne", apart := false }
def EventOneSaid : Prop := eventOneRow.holds Try.pinned (OpenSpec.ofChange eventOneSpec)

/-- ITS FALSE NEIGHBOUR: 'it returns false'. Refute it at one input. -/
def eventOneWrong : ChangeSpec := { name := "eventOne", fn := fun _ => fun
  | [d1, d2] => { results := [.lit (.bool false)], args := [d1, d2] }
  | _ => none }
def EventOneWrongFalsely : Prop := eventOneRow.holds Try.pinned (OpenSpec.ofChange eventOneWrong)

/-- 'gantletlaw09.EventPushes': WHATEVER THE INPUT: true; the input reads as it did. -/
def eventPushesSpec : ChangeSpec := { name := "eventPushes", fn := fun _ => fun
  | [d1, d2, d3] => { results := [.lit (.bool true)], args := [d1, d2, d3] }
  | _ => none }
def eventPushesRow : OpenClaim := { program := "ytomaajagncjiiaa", sum := "a7643fea3d2a2728c784bd7866015d0efd057857339c72276c3bd7e319f46432", func := "gantlet/gantletlaw09.EventPushes", spec := "eventPushes", recurses := true, apart := false }
def EventPushesSaid : Prop := eventPushesRow.holds Try.pinned (OpenSpec.ofChange eventPushesSpec)

/-- ITS FALSE NEIGHBOUR: 'it returns false'. Refute it at one input. -/
def eventPushesWrong : ChangeSpec := { name := "eventPushes", fn := fun _ => fun
  | [d1, d2, d3] => { results := [.lit (.bool false)], args := [d1, d2, d3] }
  | _ => none }
def EventPushesWrongFalsely : Prop := eventPushesRow.holds Try.pinned (OpenSpec.ofChange eventPushesWrong)

/-- 'gantletlaw09.EventCopies': WHATEVER THE INPUT: true; the input reads as it did. -/
def eventCopiesSpec : ChangeSpec := { name := "eventCopies", fn := fun _ => fun
  | [d1, d2, d3] => { results := [.lit (.bool true)], args := [d1, d2, d3] }
  | _ => none }
def eventCopiesRow : OpenClaim := { program := "ytomaajagncjiiaa", sum := "a7643fea3d2a2728c784bd7866015d0efd057857339c72276c3bd7e319f46432", func := "gantlet/gantletlaw09.EventCopies", spec := "eventCopies", apart := false }
def EventCopiesSaid : Prop := eventCopiesRow.holds Try.pinned (OpenSpec.ofChange eventCopiesSpec)

/-- ITS FALSE NEIGHBOUR: 'it returns false'. Refute it at one input. -/
def eventCopiesWrong : ChangeSpec := { name := "eventCopies", fn := fun _ => fun
  | [d1, d2, d3] => { results := [.lit (.bool false)], args := [d1, d2, d3] }
  | _ => none }
def EventCopiesWrongFalsely : Prop := eventCopiesRow.holds Try.pinned (OpenSpec.ofChange eventCopiesWrong)

/- THE SECOND FORM. 'bulk': how many values and letters a reading holds, each counted each time it is reached (what is shared counts as often as it is met; a slice's spare places count too). A statement '..UptoSaid' is the law's where the arguments, and the package variables that the reading takes, are together of bulk at most 1048576: NARROWER than '..Said'. Prove '..Said' where nothing that the law and all that it calls make is longer than what came in: it says more and counts as full. Else prove '..UptoSaid'. A law counts once. -/
mutual
def uptoBulk {H : Type} : DataW H → Nat
  | .lit (.string bytes) => bytes.length + 1
  | .lit _ => 1
  | .nil => 1
  | .ptr d => uptoBulk d + 1
  | .slice elems spare => uptoBulkAll elems + uptoBulkAll spare + 1
  | .agg parts => uptoBulkAll parts + 1
  | .iface _ d => uptoBulk d + 1
  | .map entries => uptoBulkEntries entries + 1
  | .held _ => 1
def uptoBulkAll {H : Type} : List (DataW H) → Nat
  | [] => 0
  | d :: r => uptoBulk d + uptoBulkAll r
def uptoBulkEntries {H : Type} : List (Lit × DataW H) → Nat
  | [] => 0
  | x :: r => uptoBulkEntry x + uptoBulkEntries r
def uptoBulkEntry {H : Type} : Lit × DataW H → Nat
  | (.string bytes, d) => bytes.length + uptoBulk d + 1
  | (_, d) => uptoBulk d + 1
 end
def uptoSmall : (H : Type) → List (DataW H) → Bool := fun _ ds => decide (uptoBulkAll ds ≤ 1048576)
def OpenSpec.upto (s : _root_.Go.ChangeSpec) : _root_.Go.OpenSpec := { _root_.Go.OpenSpec.ofChange s with cond := some uptoSmall }

/-- 'gantletlaw09.EventWhole', WHERE WHAT IT READS IS OF BULK AT MOST 1048576: true; the input reads as it did. -/
def eventWholeUptoRow : OpenClaim := { program := "ytomaajagncjiiaa", sum := "a7643fea3d2a2728c784bd7866015d0efd057857339c72276c3bd7e319f46432", func := "gantlet/gantletlaw09.EventWhole", spec := "eventWhole", recurses := true, apart := false, narrowed := true }
def EventWholeUptoSaid : Prop := eventWholeUptoRow.holds Try.pinned (OpenSpec.upto eventWholeSpec)

/-- 'gantletlaw09.EventFront', WHERE WHAT IT READS IS OF BULK AT MOST 1048576: true; the input reads as it did. -/
def eventFrontUptoRow : OpenClaim := { program := "ytomaajagncjiiaa", sum := "a7643fea3d2a2728c784bd7866015d0efd057857339c72276c3bd7e319f46432", func := "gantlet/gantletlaw09.EventFront", spec := "eventFront", apart := false, narrowed := true }
def EventFrontUptoSaid : Prop := eventFrontUptoRow.holds Try.pinned (OpenSpec.upto eventFrontSpec)

/-- 'gantletlaw09.EventNested', WHERE WHAT IT READS IS OF BULK AT MOST 1048576: true; the input reads as it did. -/
def eventNestedUptoRow : OpenClaim := { program := "ytomaajagncjiiaa", sum := "a7643fea3d2a2728c784bd7866015d0efd057857339c72276c3bd7e319f46432", func := "gantlet/gantletlaw09.EventNested", spec := "eventNested", apart := false, narrowed := true }
def EventNestedUptoSaid : Prop := eventNestedUptoRow.holds Try.pinned (OpenSpec.upto eventNestedSpec)

/-- 'gantletlaw09.EventEnds', WHERE WHAT IT READS IS OF BULK AT MOST 1048576: true; the input reads as it did. -/
def eventEndsUptoRow : OpenClaim := { program := "ytomaajagncjiiaa", sum := "a7643fea3d2a2728c784bd7866015d0efd057857339c72276c3bd7e319f46432", func := "gantlet/gantletlaw09.EventEnds", spec := "eventEnds", apart := false, narrowed := true }
def EventEndsUptoSaid : Prop := eventEndsUptoRow.holds Try.pinned (OpenSpec.upto eventEndsSpec)

/-- 'gantletlaw09.EventHeads', WHERE WHAT IT READS IS OF BULK AT MOST 1048576: true; the input reads as it did. -/
def eventHeadsUptoRow : OpenClaim := { program := "ytomaajagncjiiaa", sum := "a7643fea3d2a2728c784bd7866015d0efd057857339c72276c3bd7e319f46432", func := "gantlet/gantletlaw09.EventHeads", spec := "eventHeads", apart := false, narrowed := true }
def EventHeadsUptoSaid : Prop := eventHeadsUptoRow.holds Try.pinned (OpenSpec.upto eventHeadsSpec)

/-- 'gantletlaw09.EventOne', WHERE WHAT IT READS IS OF BULK AT MOST 1048576: true; the input reads as it did. -/
def eventOneUptoRow : OpenClaim := { program := "ytomaajagncjiiaa", sum := "a7643fea3d2a2728c784bd7866015d0efd057857339c72276c3bd7e319f46432", func := "gantlet/gantletlaw09.EventOne", spec := "eventOne", apart := false, narrowed := true }
def EventOneUptoSaid : Prop := eventOneUptoRow.holds Try.pinned (OpenSpec.upto eventOneSpec)

/-- 'gantletlaw09.EventPushes', WHERE WHAT IT READS IS OF BULK AT MOST 1048576: true; the input reads as it did. -/
def eventPushesUptoRow : OpenClaim := { program := "ytomaajagncjiiaa", sum := "a7643fea3d2a2728c784bd7866015d0efd057857339c72276c3bd7e319f46432", func := "gantlet/gantletlaw09.EventPushes", spec := "eventPushes", recurses := true, apart := false, narrowed := true }
def EventPushesUptoSaid : Prop := eventPushesUptoRow.holds Try.pinned (OpenSpec.upto eventPushesSpec)

/-- 'gantletlaw09.EventCopies', WHERE WHAT IT READS IS OF BULK AT MOST 1048576: true; the input reads as it did. -/
def eventCopiesUptoRow : OpenClaim := { program := "ytomaajagncjiiaa", sum := "a7643fea3d2a2728c784bd7866015d0efd057857339c72276c3bd7e319f46432", func := "gantlet/gantletlaw09.EventCopies", spec := "eventCopies", apart := false, narrowed := true }
def EventCopiesUptoSaid : Prop := eventCopiesUptoRow.holds Try.pinned (OpenSpec.upto eventCopiesSpec)

end Rows
end Go.Proofs.Ytomaajagncjiiaa
