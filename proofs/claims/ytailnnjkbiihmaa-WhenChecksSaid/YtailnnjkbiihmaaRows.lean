/-
  No cell of these rows narrows 'for every input' (looked for: loops, veiled, ifaces, maps, wideKeys, modest, calm, conditions, laid).
  DERIVED. THE GIVEN ROWS OF THIS SEAT. 6 by the template 'for every input the law returns true; each argument reads behind the call as it read before'; 0 by the template 'total and deterministic' (their statements: YtailnnjkbiihmaaTotals.lean).
  GIVEN WITH THE SEED: the statements are not yours to turn. If you find one false, say at which input.
  Laid BY PROGRAM, IN A SANDBOX (cutbox-rows.mjs): the forced cells as the released guide's own fill.sh prints them over the translation 2871b78778c64aef… (all of the seat's roots in one cut). By AI agents, Wed Nov 11 2026. No macro, syntax, notation, axiom, sorry.
-/
import Derived.Test.YtailnnjkbiihmaaChecked
import GoSem.Claim
import GoSem.ClaimJoined
import GoSem.ClaimMapViews
import Derived.JoinedTies
import Derived.KernelRfl
namespace Go.Proofs.Ytailnnjkbiihmaa
/- THE CELL 'sum', in the pinned program and in every row, IS THE sha256 OF THE DUMP (.gsa) THAT YtailnnjkbiihmaaProg.lean LOADS. Nothing in Lean hashes anything: it is a label: what it is worth is what the hold of that sum in a sandbox is worth. -/
noncomputable def Try.pinned : Pinned := { name := "ytailnnjkbiihmaa", sum := "2871b78778c64aef8c30b406547d9afae60de7899c7f6c0a99cfe4ba26edeef1", checked := Try.checked }
namespace Rows
def none {H : Type} : Left H := { results := [], args := [] }

/-- 'gantletlaw13.WhenChecks': WHATEVER THE INPUT: true; the input reads as it did. -/
def whenChecksSpec : ChangeSpec := { name := "whenChecks", fn := fun _ => fun
  | [d1, d2, d3] => { results := [.lit (.bool true)], args := [d1, d2, d3] }
  | _ => none }
def whenChecksRow : OpenClaim := { program := "ytailnnjkbiihmaa", sum := "2871b78778c64aef8c30b406547d9afae60de7899c7f6c0a99cfe4ba26edeef1", func := "gantlet/gantletlaw13.WhenChecks", spec := "whenChecks", recurses := true, apart := false }
def WhenChecksSaid : Prop := whenChecksRow.holds Try.pinned (OpenSpec.ofChange whenChecksSpec)

/-- ITS FALSE NEIGHBOUR: 'it returns false'. Refute it at one input. -/
def whenChecksWrong : ChangeSpec := { name := "whenChecks", fn := fun _ => fun
  | [d1, d2, d3] => { results := [.lit (.bool false)], args := [d1, d2, d3] }
  | _ => none }
def WhenChecksWrongFalsely : Prop := whenChecksRow.holds Try.pinned (OpenSpec.ofChange whenChecksWrong)

/-- 'gantletlaw13.WhenPuts': WHATEVER THE INPUT: true; the input reads as it did. -/
def whenPutsSpec : ChangeSpec := { name := "whenPuts", fn := fun _ => fun
  | [d1, d2, d3] => { results := [.lit (.bool true)], args := [d1, d2, d3] }
  | _ => none }
def whenPutsRow : OpenClaim := { program := "ytailnnjkbiihmaa", sum := "2871b78778c64aef8c30b406547d9afae60de7899c7f6c0a99cfe4ba26edeef1", func := "gantlet/gantletlaw13.WhenPuts", spec := "whenPuts", apart := false }
def WhenPutsSaid : Prop := whenPutsRow.holds Try.pinned (OpenSpec.ofChange whenPutsSpec)

/-- ITS FALSE NEIGHBOUR: 'it returns false'. Refute it at one input. -/
def whenPutsWrong : ChangeSpec := { name := "whenPuts", fn := fun _ => fun
  | [d1, d2, d3] => { results := [.lit (.bool false)], args := [d1, d2, d3] }
  | _ => none }
def WhenPutsWrongFalsely : Prop := whenPutsRow.holds Try.pinned (OpenSpec.ofChange whenPutsWrong)

/-- 'gantletlaw13.WhenBack': WHATEVER THE INPUT: true; the input reads as it did. -/
def whenBackSpec : ChangeSpec := { name := "whenBack", fn := fun _ => fun
  | [d] => { results := [.lit (.bool true)], args := [d] }
  | _ => none }
def whenBackRow : OpenClaim := { program := "ytailnnjkbiihmaa", sum := "2871b78778c64aef8c30b406547d9afae60de7899c7f6c0a99cfe4ba26edeef1", func := "gantlet/gantletlaw13.WhenBack", spec := "whenBack", apart := false }
def WhenBackSaid : Prop := whenBackRow.holds Try.pinned (OpenSpec.ofChange whenBackSpec)

/-- ITS FALSE NEIGHBOUR: 'it returns false'. Refute it at one input. -/
def whenBackWrong : ChangeSpec := { name := "whenBack", fn := fun _ => fun
  | [d] => { results := [.lit (.bool false)], args := [d] }
  | _ => none }
def WhenBackWrongFalsely : Prop := whenBackRow.holds Try.pinned (OpenSpec.ofChange whenBackWrong)

/-- 'gantletlaw13.WhenOne': WHATEVER THE INPUT: true; the input reads as it did. -/
def whenOneSpec : ChangeSpec := { name := "whenOne", fn := fun _ => fun
  | [d1, d2] => { results := [.lit (.bool true)], args := [d1, d2] }
  | _ => none }
def whenOneRow : OpenClaim := { program := "ytailnnjkbiihmaa", sum := "2871b78778c64aef8c30b406547d9afae60de7899c7f6c0a99cfe4ba26edeef1", func := "gantlet/gantletlaw13.WhenOne", spec := "whenOne", apart := false }
def WhenOneSaid : Prop := whenOneRow.holds Try.pinned (OpenSpec.ofChange whenOneSpec)

/-- ITS FALSE NEIGHBOUR: 'it returns false'. Refute it at one input. -/
def whenOneWrong : ChangeSpec := { name := "whenOne", fn := fun _ => fun
  | [d1, d2] => { results := [.lit (.bool false)], args := [d1, d2] }
  | _ => none }
def WhenOneWrongFalsely : Prop := whenOneRow.holds Try.pinned (OpenSpec.ofChange whenOneWrong)

/-- 'gantletlaw13.WhenDays': WHATEVER THE INPUT: true; the input reads as it did. -/
def whenDaysSpec : ChangeSpec := { name := "whenDays", fn := fun _ => fun
  | [d1, d2, d3] => { results := [.lit (.bool true)], args := [d1, d2, d3] }
  | _ => none }
def whenDaysRow : OpenClaim := { program := "ytailnnjkbiihmaa", sum := "2871b78778c64aef8c30b406547d9afae60de7899c7f6c0a99cfe4ba26edeef1", func := "gantlet/gantletlaw13.WhenDays", spec := "whenDays", apart := false }
def WhenDaysSaid : Prop := whenDaysRow.holds Try.pinned (OpenSpec.ofChange whenDaysSpec)

/-- ITS FALSE NEIGHBOUR: 'it returns false'. Refute it at one input. -/
def whenDaysWrong : ChangeSpec := { name := "whenDays", fn := fun _ => fun
  | [d1, d2, d3] => { results := [.lit (.bool false)], args := [d1, d2, d3] }
  | _ => none }
def WhenDaysWrongFalsely : Prop := whenDaysRow.holds Try.pinned (OpenSpec.ofChange whenDaysWrong)

/-- 'gantletlaw13.WhenOrder': WHATEVER THE INPUT: true; the input reads as it did. -/
def whenOrderSpec : ChangeSpec := { name := "whenOrder", fn := fun _ => fun
  | [d1, d2] => { results := [.lit (.bool true)], args := [d1, d2] }
  | _ => none }
def whenOrderRow : OpenClaim := { program := "ytailnnjkbiihmaa", sum := "2871b78778c64aef8c30b406547d9afae60de7899c7f6c0a99cfe4ba26edeef1", func := "gantlet/gantletlaw13.WhenOrder", spec := "whenOrder", apart := false }
def WhenOrderSaid : Prop := whenOrderRow.holds Try.pinned (OpenSpec.ofChange whenOrderSpec)

/-- ITS FALSE NEIGHBOUR: 'it returns false'. Refute it at one input. -/
def whenOrderWrong : ChangeSpec := { name := "whenOrder", fn := fun _ => fun
  | [d1, d2] => { results := [.lit (.bool false)], args := [d1, d2] }
  | _ => none }
def WhenOrderWrongFalsely : Prop := whenOrderRow.holds Try.pinned (OpenSpec.ofChange whenOrderWrong)

/- THE SECOND FORM. 'bulk': how many values and letters a reading holds, each counted each time it is reached (what is shared counts as often as it is met; a slice's spare places count too). A statement '..UptoSaid' is the law's where the arguments, and the package variables that the reading takes, are together of bulk at most 1048576: NARROWER than '..Said'. Prove '..Said' where nothing that the law and all that it calls make is longer than what came in: it says more and counts as full. Else prove '..UptoSaid'. A law counts once. -/
mutual
def uptoBulk {H : Type} : DataW H → Nat
  | .lit (.string bytes) => bytes.length + 1
  | .lit _ => 1
  | .nil => 1
  | .ptr d => uptoBulk d + 1
  | .slice elems spare => uptoBulkAll elems + uptoBulkAll spare + 1
  | .agg parts => uptoBulkAll parts + 1
  | .iface _ d => uptoBulk d + 1
  | .map entries => uptoBulkEntries entries + 1
  | .held _ => 1
def uptoBulkAll {H : Type} : List (DataW H) → Nat
  | [] => 0
  | d :: r => uptoBulk d + uptoBulkAll r
def uptoBulkEntries {H : Type} : List (Lit × DataW H) → Nat
  | [] => 0
  | x :: r => uptoBulkEntry x + uptoBulkEntries r
def uptoBulkEntry {H : Type} : Lit × DataW H → Nat
  | (.string bytes, d) => bytes.length + uptoBulk d + 1
  | (_, d) => uptoBulk d + 1
 end
def uptoSmall : (H : Type) → List (DataW H) → Bool := fun _ ds => decide (uptoBulkAll ds ≤ 1048576)
def OpenSpec.upto (s : _root_.Go.ChangeSpec) : _root_.Go.OpenSpec := { _root_.Go.OpenSpec.ofChange s with cond := some uptoSmall }

/-- 'gantletlaw13.WhenChecks', WHERE WHAT IT READS IS OF BULK AT MOST 1048576: true; the input reads as it did. -/
def whenChecksUptoRow : OpenClaim := { program := "ytailnnjkbiihmaa", sum := "2871b78778c64aef8c30b406547d9afae60de7899c7f6c0a99cfe4ba26edeef1", func := "gantlet/gantletlaw13.WhenChecks", spec := "whenChecks", recurses := true, apart := false, narrowed := true }
def WhenChecksUptoSaid : Prop := whenChecksUptoRow.holds Try.pinned (OpenSpec.upto whenChecksSpec)

/-- 'gantletlaw13.WhenPuts', WHERE WHAT IT READS IS OF BULK AT MOST 1048576: true; the input reads as it did. -/
def whenPutsUptoRow : OpenClaim := { program := "ytailnnjkbiihmaa", sum := "2871b78778c64aef8c30b406547d9afae60de7899c7f6c0a99cfe4ba26edeef1", func := "gantlet/gantletlaw13.WhenPuts", spec := "whenPuts", apart := false, narrowed := true }
def WhenPutsUptoSaid : Prop := whenPutsUptoRow.holds Try.pinned (OpenSpec.upto whenPutsSpec)

/-- 'gantletlaw13.WhenBack', WHERE WHAT IT READS IS OF BULK AT MOST 1048576: true; the input reads as it did. -/
def whenBackUptoRow : OpenClaim := { program := "ytailnnjkbiihmaa", sum := "2871b78778c64aef8c30b406547d9afae60de7899c7f6c0a99cfe4ba26edeef1", func := "gantlet/gantletlaw13.WhenBack", spec := "whenBack", apart := false, narrowed := true }
def WhenBackUptoSaid : Prop := whenBackUptoRow.holds Try.pinned (OpenSpec.upto whenBackSpec)

/-- 'gantletlaw13.WhenOne', WHERE WHAT IT READS IS OF BULK AT MOST 1048576: true; the input reads as it did. -/
def whenOneUptoRow : OpenClaim := { program := "ytailnnjkbiihmaa", sum := "2871b78778c64aef8c30b406547d9afae60de7899c7f6c0a99cfe4ba26edeef1", func := "gantlet/gantletlaw13.WhenOne", spec := "whenOne", apart := false, narrowed := true }
def WhenOneUptoSaid : Prop := whenOneUptoRow.holds Try.pinned (OpenSpec.upto whenOneSpec)

/-- 'gantletlaw13.WhenDays', WHERE WHAT IT READS IS OF BULK AT MOST 1048576: true; the input reads as it did. -/
def whenDaysUptoRow : OpenClaim := { program := "ytailnnjkbiihmaa", sum := "2871b78778c64aef8c30b406547d9afae60de7899c7f6c0a99cfe4ba26edeef1", func := "gantlet/gantletlaw13.WhenDays", spec := "whenDays", apart := false, narrowed := true }
def WhenDaysUptoSaid : Prop := whenDaysUptoRow.holds Try.pinned (OpenSpec.upto whenDaysSpec)

/-- 'gantletlaw13.WhenOrder', WHERE WHAT IT READS IS OF BULK AT MOST 1048576: true; the input reads as it did. -/
def whenOrderUptoRow : OpenClaim := { program := "ytailnnjkbiihmaa", sum := "2871b78778c64aef8c30b406547d9afae60de7899c7f6c0a99cfe4ba26edeef1", func := "gantlet/gantletlaw13.WhenOrder", spec := "whenOrder", apart := false, narrowed := true }
def WhenOrderUptoSaid : Prop := whenOrderUptoRow.holds Try.pinned (OpenSpec.upto whenOrderSpec)

end Rows
end Go.Proofs.Ytailnnjkbiihmaa
