/-
  No cell of these rows narrows 'for every input' (looked for: loops, veiled, ifaces, maps, wideKeys, modest, calm, conditions, laid).
  DERIVED. THE GIVEN ROWS OF THIS SEAT. 6 by the template 'for every input the law returns true; each argument reads behind the call as it read before'; 0 by the template 'total and deterministic' (their statements: YtiohngikhchgeaaTotals.lean).
  GIVEN WITH THE SEED: the statements are not yours to turn. If you find one false, say at which input.
  Laid BY PROGRAM, IN A SANDBOX (cutbox-rows.mjs): the forced cells as the released guide's own fill.sh prints them over the translation 701ae0bc8cc8298d… (all of the seat's roots in one cut). By AI agents, Wed Nov 11 2026. No macro, syntax, notation, axiom, sorry.
-/
import Derived.Test.YtiohngikhchgeaaChecked
import GoSem.Claim
import GoSem.ClaimJoined
import GoSem.ClaimMapViews
import Derived.JoinedTies
import Derived.KernelRfl
namespace Go.Proofs.Ytiohngikhchgeaa
/- THE CELL 'sum', in the pinned program and in every row, IS THE sha256 OF THE DUMP (.gsa) THAT YtiohngikhchgeaaProg.lean LOADS. Nothing in Lean hashes anything: it is a label: what it is worth is what the hold of that sum in a sandbox is worth. -/
noncomputable def Try.pinned : Pinned := { name := "ytiohngikhchgeaa", sum := "701ae0bc8cc8298db109a8357d2106bc52426f9ff2e07d81d935c7eaee17894c", checked := Try.checked }
namespace Rows
def none {H : Type} : Left H := { results := [], args := [] }

/-- 'gantletlaw05.IdentPuts': WHATEVER THE INPUT: true; the input reads as it did. -/
def identPutsSpec : ChangeSpec := { name := "identPuts", fn := fun _ => fun
  | [d] => { results := [.lit (.bool true)], args := [d] }
  | _ => none }
def identPutsRow : OpenClaim := { program := "ytiohngikhchgeaa", sum := "701ae0bc8cc8298db109a8357d2106bc52426f9ff2e07d81d935c7eaee17894c", func := "gantlet/gantletlaw05.IdentPuts", spec := "identPuts", apart := false }
def IdentPutsSaid : Prop := identPutsRow.holds Try.pinned (OpenSpec.ofChange identPutsSpec)

/-- ITS FALSE NEIGHBOUR: 'it returns false'. Refute it at one input. -/
def identPutsWrong : ChangeSpec := { name := "identPuts", fn := fun _ => fun
  | [d] => { results := [.lit (.bool false)], args := [d] }
  | _ => none }
def IdentPutsWrongFalsely : Prop := identPutsRow.holds Try.pinned (OpenSpec.ofChange identPutsWrong)

/-- 'gantletlaw05.IdentGets': WHATEVER THE INPUT: true; the input reads as it did. -/
def identGetsSpec : ChangeSpec := { name := "identGets", fn := fun _ => fun
  | [d1, d2] => { results := [.lit (.bool true)], args := [d1, d2] }
  | _ => none }
def identGetsRow : OpenClaim := { program := "ytiohngikhchgeaa", sum := "701ae0bc8cc8298db109a8357d2106bc52426f9ff2e07d81d935c7eaee17894c", func := "gantlet/gantletlaw05.IdentGets", spec := "identGets", apart := false }
def IdentGetsSaid : Prop := identGetsRow.holds Try.pinned (OpenSpec.ofChange identGetsSpec)

/-- ITS FALSE NEIGHBOUR: 'it returns false'. Refute it at one input. -/
def identGetsWrong : ChangeSpec := { name := "identGets", fn := fun _ => fun
  | [d1, d2] => { results := [.lit (.bool false)], args := [d1, d2] }
  | _ => none }
def IdentGetsWrongFalsely : Prop := identGetsRow.holds Try.pinned (OpenSpec.ofChange identGetsWrong)

/-- 'gantletlaw05.IdentBack': WHATEVER THE INPUT: true; the input reads as it did. -/
def identBackSpec : ChangeSpec := { name := "identBack", fn := fun _ => fun
  | [d1, d2] => { results := [.lit (.bool true)], args := [d1, d2] }
  | _ => none }
def identBackRow : OpenClaim := { program := "ytiohngikhchgeaa", sum := "701ae0bc8cc8298db109a8357d2106bc52426f9ff2e07d81d935c7eaee17894c", func := "gantlet/gantletlaw05.IdentBack", spec := "identBack", apart := false }
def IdentBackSaid : Prop := identBackRow.holds Try.pinned (OpenSpec.ofChange identBackSpec)

/-- ITS FALSE NEIGHBOUR: 'it returns false'. Refute it at one input. -/
def identBackWrong : ChangeSpec := { name := "identBack", fn := fun _ => fun
  | [d1, d2] => { results := [.lit (.bool false)], args := [d1, d2] }
  | _ => none }
def IdentBackWrongFalsely : Prop := identBackRow.holds Try.pinned (OpenSpec.ofChange identBackWrong)

/-- 'gantletlaw05.IdentOne': WHATEVER THE INPUT: true; the input reads as it did. -/
def identOneSpec : ChangeSpec := { name := "identOne", fn := fun _ => fun
  | [d] => { results := [.lit (.bool true)], args := [d] }
  | _ => none }
def identOneRow : OpenClaim := { program := "ytiohngikhchgeaa", sum := "701ae0bc8cc8298db109a8357d2106bc52426f9ff2e07d81d935c7eaee17894c", func := "gantlet/gantletlaw05.IdentOne", spec := "identOne", apart := false }
def IdentOneSaid : Prop := identOneRow.holds Try.pinned (OpenSpec.ofChange identOneSpec)

/-- ITS FALSE NEIGHBOUR: 'it returns false'. Refute it at one input. -/
def identOneWrong : ChangeSpec := { name := "identOne", fn := fun _ => fun
  | [d] => { results := [.lit (.bool false)], args := [d] }
  | _ => none }
def IdentOneWrongFalsely : Prop := identOneRow.holds Try.pinned (OpenSpec.ofChange identOneWrong)

/-- 'gantletlaw05.IdentCut': WHATEVER THE INPUT: true; the input reads as it did. -/
def identCutSpec : ChangeSpec := { name := "identCut", fn := fun _ => fun
  | [d1, d2, d3] => { results := [.lit (.bool true)], args := [d1, d2, d3] }
  | _ => none }
def identCutRow : OpenClaim := { program := "ytiohngikhchgeaa", sum := "701ae0bc8cc8298db109a8357d2106bc52426f9ff2e07d81d935c7eaee17894c", func := "gantlet/gantletlaw05.IdentCut", spec := "identCut", apart := false }
def IdentCutSaid : Prop := identCutRow.holds Try.pinned (OpenSpec.ofChange identCutSpec)

/-- ITS FALSE NEIGHBOUR: 'it returns false'. Refute it at one input. -/
def identCutWrong : ChangeSpec := { name := "identCut", fn := fun _ => fun
  | [d1, d2, d3] => { results := [.lit (.bool false)], args := [d1, d2, d3] }
  | _ => none }
def IdentCutWrongFalsely : Prop := identCutRow.holds Try.pinned (OpenSpec.ofChange identCutWrong)

/-- 'gantletlaw05.IdentSizes': WHATEVER THE INPUT: true; the input reads as it did. -/
def identSizesSpec : ChangeSpec := { name := "identSizes", fn := fun _ => fun
  | [d] => { results := [.lit (.bool true)], args := [d] }
  | _ => none }
def identSizesRow : OpenClaim := { program := "ytiohngikhchgeaa", sum := "701ae0bc8cc8298db109a8357d2106bc52426f9ff2e07d81d935c7eaee17894c", func := "gantlet/gantletlaw05.IdentSizes", spec := "identSizes", apart := false }
def IdentSizesSaid : Prop := identSizesRow.holds Try.pinned (OpenSpec.ofChange identSizesSpec)

/-- ITS FALSE NEIGHBOUR: 'it returns false'. Refute it at one input. -/
def identSizesWrong : ChangeSpec := { name := "identSizes", fn := fun _ => fun
  | [d] => { results := [.lit (.bool false)], args := [d] }
  | _ => none }
def IdentSizesWrongFalsely : Prop := identSizesRow.holds Try.pinned (OpenSpec.ofChange identSizesWrong)

/- THE SECOND FORM. 'bulk': how many values and letters a reading holds, each counted each time it is reached (what is shared counts as often as it is met; a slice's spare places count too). A statement '..UptoSaid' is the law's where the arguments, and the package variables that the reading takes, are together of bulk at most 1048576: NARROWER than '..Said'. Prove '..Said' where nothing that the law and all that it calls make is longer than what came in: it says more and counts as full. Else prove '..UptoSaid'. A law counts once. -/
mutual
def uptoBulk {H : Type} : DataW H → Nat
  | .lit (.string bytes) => bytes.length + 1
  | .lit _ => 1
  | .nil => 1
  | .ptr d => uptoBulk d + 1
  | .slice elems spare => uptoBulkAll elems + uptoBulkAll spare + 1
  | .agg parts => uptoBulkAll parts + 1
  | .iface _ d => uptoBulk d + 1
  | .map entries => uptoBulkEntries entries + 1
  | .held _ => 1
def uptoBulkAll {H : Type} : List (DataW H) → Nat
  | [] => 0
  | d :: r => uptoBulk d + uptoBulkAll r
def uptoBulkEntries {H : Type} : List (Lit × DataW H) → Nat
  | [] => 0
  | x :: r => uptoBulkEntry x + uptoBulkEntries r
def uptoBulkEntry {H : Type} : Lit × DataW H → Nat
  | (.string bytes, d) => bytes.length + uptoBulk d + 1
  | (_, d) => uptoBulk d + 1
 end
def uptoSmall : (H : Type) → List (DataW H) → Bool := fun _ ds => decide (uptoBulkAll ds ≤ 1048576)
def OpenSpec.upto (s : _root_.Go.ChangeSpec) : _root_.Go.OpenSpec := { _root_.Go.OpenSpec.ofChange s with cond := some uptoSmall }

/-- 'gantletlaw05.IdentPuts', WHERE WHAT IT READS IS OF BULK AT MOST 1048576: true; the input reads as it did. -/
def identPutsUptoRow : OpenClaim := { program := "ytiohngikhchgeaa", sum := "701ae0bc8cc8298db109a8357d2106bc52426f9ff2e07d81d935c7eaee17894c", func := "gantlet/gantletlaw05.IdentPuts", spec := "identPuts", apart := false, narrowed := true }
def IdentPutsUptoSaid : Prop := identPutsUptoRow.holds Try.pinned (OpenSpec.upto identPutsSpec)

/-- 'gantletlaw05.IdentGets', WHERE WHAT IT READS IS OF BULK AT MOST 1048576: true; the input reads as it did. -/
def identGetsUptoRow : OpenClaim := { program := "ytiohngikhchgeaa", sum := "701ae0bc8cc8298db109a8357d2106bc52426f9ff2e07d81d935c7eaee17894c", func := "gantlet/gantletlaw05.IdentGets", spec := "identGets", apart := false, narrowed := true }
def IdentGetsUptoSaid : Prop := identGetsUptoRow.holds Try.pinned (OpenSpec.upto identGetsSpec)

/-- 'gantletlaw05.IdentBack', WHERE WHAT IT READS IS OF BULK AT MOST 1048576: true; the input reads as it did. -/
def identBackUptoRow : OpenClaim := { program := "ytiohngikhchgeaa", sum := "701ae0bc8cc8298db109a8357d2106bc52426f9ff2e07d81d935c7eaee17894c", func := "gantlet/gantletlaw05.IdentBack", spec := "identBack", apart := false, narrowed := true }
def IdentBackUptoSaid : Prop := identBackUptoRow.holds Try.pinned (OpenSpec.upto identBackSpec)

/-- 'gantletlaw05.IdentOne', WHERE WHAT IT READS IS OF BULK AT MOST 1048576: true; the input reads as it did. -/
def identOneUptoRow : OpenClaim := { program := "ytiohngikhchgeaa", sum := "701ae0bc8cc8298db109a8357d2106bc52426f9ff2e07d81d935c7eaee17894c", func := "gantlet/gantletlaw05.IdentOne", spec := "identOne", apart := false, narrowed := true }
def IdentOneUptoSaid : Prop := identOneUptoRow.holds Try.pinned (OpenSpec.upto identOneSpec)

/-- 'gantletlaw05.IdentCut', WHERE WHAT IT READS IS OF BULK AT MOST 1048576: true; the input reads as it did. -/
def identCutUptoRow : OpenClaim := { program := "ytiohngikhchgeaa", sum := "701ae0bc8cc8298db109a8357d2106bc52426f9ff2e07d81d935c7eaee17894c", func := "gantlet/gantletlaw05.IdentCut", spec := "identCut", apart := false, narrowed := true }
def IdentCutUptoSaid : Prop := identCutUptoRow.holds Try.pinned (OpenSpec.upto identCutSpec)

/-- 'gantletlaw05.IdentSizes', WHERE WHAT IT READS IS OF BULK AT MOST 1048576: true; the input reads as it did. -/
def identSizesUptoRow : OpenClaim := { program := "ytiohngikhchgeaa", sum := "701ae0bc8cc8298db109a8357d2106bc52426f9ff2e07d81d935c7eaee17894c", func := "gantlet/gantletlaw05.IdentSizes", spec := "identSizes", apart := false, narrowed := true }
def IdentSizesUptoSaid : Prop := identSizesUptoRow.holds Try.pinned (OpenSpec.upto identSizesSpec)

end Rows
end Go.Proofs.Ytiohngikhchgeaa
