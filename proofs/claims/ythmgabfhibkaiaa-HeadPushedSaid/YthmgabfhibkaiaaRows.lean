/-
  No cell of these rows narrows 'for every input' (looked for: loops, veiled, ifaces, maps, wideKeys, modest, calm, conditions, laid).
  DERIVED. THE GIVEN ROWS OF THIS SEAT. 6 by the template 'for every input the law returns true; each argument reads behind the call as it read before'; 0 by the template 'total and deterministic' (their statements: YthmgabfhibkaiaaTotals.lean).
  GIVEN WITH THE SEED: the statements are not yours to turn. If you find one false, say at which input.
  Laid BY PROGRAM, IN A SANDBOX (cutbox-rows.mjs): the forced cells as the released guide's own fill.sh prints them over the translation 017ec611bb940a9d… (all of the seat's roots in one cut). By AI agents, Wed Nov 11 2026. No macro, syntax, notation, axiom, sorry.
-/
import Derived.Test.YthmgabfhibkaiaaChecked
import GoSem.Claim
import GoSem.ClaimJoined
import GoSem.ClaimMapViews
import Derived.JoinedTies
import Derived.KernelRfl
namespace Go.Proofs.Ythmgabfhibkaiaa
/- THE CELL 'sum', in the pinned program and in every row, IS THE sha256 OF THE DUMP (.gsa) THAT YthmgabfhibkaiaaProg.lean LOADS. Nothing in Lean hashes anything: it is a label: what it is worth is what the hold of that sum in a sandbox is worth. -/
noncomputable def Try.pinned : Pinned := { name := "ythmgabfhibkaiaa", sum := "017ec611bb940a9d3454c1ac536cb292fa341fdcacfbc21f27f385dee0f91387", checked := Try.checked }
namespace Rows
def none {H : Type} : Left H := { results := [], args := [] }

/-- 'gantletlaw07.HeadPuts': WHATEVER THE INPUT: true; the input reads as it did. -/
def headPutsSpec : ChangeSpec := { name := "headPuts", fn := fun _ => fun
  | [d] => { results := [.lit (.bool true)], args := [d] }
  | _ => none }
def headPutsRow : OpenClaim := { program := "ythmgabfhibkaiaa", sum := "017ec611bb940a9d3454c1ac536cb292fa341fdcacfbc21f27f385dee0f91387", func := "gantlet/gantletlaw07.HeadPuts", spec := "headPuts", apart := false }
def HeadPutsSaid : Prop := headPutsRow.holds Try.pinned (OpenSpec.ofChange headPutsSpec)

/-- ITS FALSE NEIGHBOUR: 'it returns false'. Refute it at one input. -/
def headPutsWrong : ChangeSpec := { name := "headPuts", fn := fun _ => fun
  | [d] => { results := [.lit (.bool false)], args := [d] }
  | _ => none }
def HeadPutsWrongFalsely : Prop := headPutsRow.holds Try.pinned (OpenSpec.ofChange headPutsWrong)

/-- 'gantletlaw07.HeadGets': WHATEVER THE INPUT: true; the input reads as it did. -/
def headGetsSpec : ChangeSpec := { name := "headGets", fn := fun _ => fun
  | [d1, d2] => { results := [.lit (.bool true)], args := [d1, d2] }
  | _ => none }
def headGetsRow : OpenClaim := { program := "ythmgabfhibkaiaa", sum := "017ec611bb940a9d3454c1ac536cb292fa341fdcacfbc21f27f385dee0f91387", func := "gantlet/gantletlaw07.HeadGets", spec := "headGets", apart := false }
def HeadGetsSaid : Prop := headGetsRow.holds Try.pinned (OpenSpec.ofChange headGetsSpec)

/-- ITS FALSE NEIGHBOUR: 'it returns false'. Refute it at one input. -/
def headGetsWrong : ChangeSpec := { name := "headGets", fn := fun _ => fun
  | [d1, d2] => { results := [.lit (.bool false)], args := [d1, d2] }
  | _ => none }
def HeadGetsWrongFalsely : Prop := headGetsRow.holds Try.pinned (OpenSpec.ofChange headGetsWrong)

/-- 'gantletlaw07.HeadPushed': WHATEVER THE INPUT: true; the input reads as it did. -/
def headPushedSpec : ChangeSpec := { name := "headPushed", fn := fun _ => fun
  | [d] => { results := [.lit (.bool true)], args := [d] }
  | _ => none }
def headPushedRow : OpenClaim := { program := "ythmgabfhibkaiaa", sum := "017ec611bb940a9d3454c1ac536cb292fa341fdcacfbc21f27f385dee0f91387", func := "gantlet/gantletlaw07.HeadPushed", spec := "headPushed", apart := false }
def HeadPushedSaid : Prop := headPushedRow.holds Try.pinned (OpenSpec.ofChange headPushedSpec)

/-- ITS FALSE NEIGHBOUR: 'it returns false'. Refute it at one input. -/
def headPushedWrong : ChangeSpec := { name := "headPushed", fn := fun _ => fun
  | [d] => { results := [.lit (.bool false)], args := [d] }
  | _ => none }
def HeadPushedWrongFalsely : Prop := headPushedRow.holds Try.pinned (OpenSpec.ofChange headPushedWrong)

/-- 'gantletlaw07.HeadBack': WHATEVER THE INPUT: true; the input reads as it did. -/
def headBackSpec : ChangeSpec := { name := "headBack", fn := fun _ => fun
  | [d1, d2] => { results := [.lit (.bool true)], args := [d1, d2] }
  | _ => none }
def headBackRow : OpenClaim := { program := "ythmgabfhibkaiaa", sum := "017ec611bb940a9d3454c1ac536cb292fa341fdcacfbc21f27f385dee0f91387", func := "gantlet/gantletlaw07.HeadBack", spec := "headBack", apart := false }
def HeadBackSaid : Prop := headBackRow.holds Try.pinned (OpenSpec.ofChange headBackSpec)

/-- ITS FALSE NEIGHBOUR: 'it returns false'. Refute it at one input. -/
def headBackWrong : ChangeSpec := { name := "headBack", fn := fun _ => fun
  | [d1, d2] => { results := [.lit (.bool false)], args := [d1, d2] }
  | _ => none }
def HeadBackWrongFalsely : Prop := headBackRow.holds Try.pinned (OpenSpec.ofChange headBackWrong)

/-- 'gantletlaw07.HeadOne': WHATEVER THE INPUT: true; the input reads as it did. -/
def headOneSpec : ChangeSpec := { name := "headOne", fn := fun _ => fun
  | [d1, d2] => { results := [.lit (.bool true)], args := [d1, d2] }
  | _ => none }
def headOneRow : OpenClaim := { program := "ythmgabfhibkaiaa", sum := "017ec611bb940a9d3454c1ac536cb292fa341fdcacfbc21f27f385dee0f91387", func := "gantlet/gantletlaw07.HeadOne", spec := "headOne", apart := false }
def HeadOneSaid : Prop := headOneRow.holds Try.pinned (OpenSpec.ofChange headOneSpec)

/-- ITS FALSE NEIGHBOUR: 'it returns false'. Refute it at one input. -/
def headOneWrong : ChangeSpec := { name := "headOne", fn := fun _ => fun
  | [d1, d2] => { results := [.lit (.bool false)], args := [d1, d2] }
  | _ => none }
def HeadOneWrongFalsely : Prop := headOneRow.holds Try.pinned (OpenSpec.ofChange headOneWrong)

/-- 'gantletlaw07.HeadSizes': WHATEVER THE INPUT: true; the input reads as it did. -/
def headSizesSpec : ChangeSpec := { name := "headSizes", fn := fun _ => fun
  | [d1, d2] => { results := [.lit (.bool true)], args := [d1, d2] }
  | _ => none }
def headSizesRow : OpenClaim := { program := "ythmgabfhibkaiaa", sum := "017ec611bb940a9d3454c1ac536cb292fa341fdcacfbc21f27f385dee0f91387", func := "gantlet/gantletlaw07.HeadSizes", spec := "headSizes", apart := false }
def HeadSizesSaid : Prop := headSizesRow.holds Try.pinned (OpenSpec.ofChange headSizesSpec)

/-- ITS FALSE NEIGHBOUR: 'it returns false'. Refute it at one input. -/
def headSizesWrong : ChangeSpec := { name := "headSizes", fn := fun _ => fun
  | [d1, d2] => { results := [.lit (.bool false)], args := [d1, d2] }
  | _ => none }
def HeadSizesWrongFalsely : Prop := headSizesRow.holds Try.pinned (OpenSpec.ofChange headSizesWrong)

/- THE SECOND FORM. 'bulk': how many values and letters a reading holds, each counted each time it is reached (what is shared counts as often as it is met; a slice's spare places count too). A statement '..UptoSaid' is the law's where the arguments, and the package variables that the reading takes, are together of bulk at most 1048576: NARROWER than '..Said'. Prove '..Said' where nothing that the law and all that it calls make is longer than what came in: it says more and counts as full. Else prove '..UptoSaid'. A law counts once. -/
mutual
def uptoBulk {H : Type} : DataW H → Nat
  | .lit (.string bytes) => bytes.length + 1
  | .lit _ => 1
  | .nil => 1
  | .ptr d => uptoBulk d + 1
  | .slice elems spare => uptoBulkAll elems + uptoBulkAll spare + 1
  | .agg parts => uptoBulkAll parts + 1
  | .iface _ d => uptoBulk d + 1
  | .map entries => uptoBulkEntries entries + 1
  | .held _ => 1
def uptoBulkAll {H : Type} : List (DataW H) → Nat
  | [] => 0
  | d :: r => uptoBulk d + uptoBulkAll r
def uptoBulkEntries {H : Type} : List (Lit × DataW H) → Nat
  | [] => 0
  | x :: r => uptoBulkEntry x + uptoBulkEntries r
def uptoBulkEntry {H : Type} : Lit × DataW H → Nat
  | (.string bytes, d) => bytes.length + uptoBulk d + 1
  | (_, d) => uptoBulk d + 1
 end
def uptoSmall : (H : Type) → List (DataW H) → Bool := fun _ ds => decide (uptoBulkAll ds ≤ 1048576)
def OpenSpec.upto (s : _root_.Go.ChangeSpec) : _root_.Go.OpenSpec := { _root_.Go.OpenSpec.ofChange s with cond := some uptoSmall }

/-- 'gantletlaw07.HeadPuts', WHERE WHAT IT READS IS OF BULK AT MOST 1048576: true; the input reads as it did. -/
def headPutsUptoRow : OpenClaim := { program := "ythmgabfhibkaiaa", sum := "017ec611bb940a9d3454c1ac536cb292fa341fdcacfbc21f27f385dee0f91387", func := "gantlet/gantletlaw07.HeadPuts", spec := "headPuts", apart := false, narrowed := true }
def HeadPutsUptoSaid : Prop := headPutsUptoRow.holds Try.pinned (OpenSpec.upto headPutsSpec)

/-- 'gantletlaw07.HeadGets', WHERE WHAT IT READS IS OF BULK AT MOST 1048576: true; the input reads as it did. -/
def headGetsUptoRow : OpenClaim := { program := "ythmgabfhibkaiaa", sum := "017ec611bb940a9d3454c1ac536cb292fa341fdcacfbc21f27f385dee0f91387", func := "gantlet/gantletlaw07.HeadGets", spec := "headGets", apart := false, narrowed := true }
def HeadGetsUptoSaid : Prop := headGetsUptoRow.holds Try.pinned (OpenSpec.upto headGetsSpec)

/-- 'gantletlaw07.HeadPushed', WHERE WHAT IT READS IS OF BULK AT MOST 1048576: true; the input reads as it did. -/
def headPushedUptoRow : OpenClaim := { program := "ythmgabfhibkaiaa", sum := "017ec611bb940a9d3454c1ac536cb292fa341fdcacfbc21f27f385dee0f91387", func := "gantlet/gantletlaw07.HeadPushed", spec := "headPushed", apart := false, narrowed := true }
def HeadPushedUptoSaid : Prop := headPushedUptoRow.holds Try.pinned (OpenSpec.upto headPushedSpec)

/-- 'gantletlaw07.HeadBack', WHERE WHAT IT READS IS OF BULK AT MOST 1048576: true; the input reads as it did. -/
def headBackUptoRow : OpenClaim := { program := "ythmgabfhibkaiaa", sum := "017ec611bb940a9d3454c1ac536cb292fa341fdcacfbc21f27f385dee0f91387", func := "gantlet/gantletlaw07.HeadBack", spec := "headBack", apart := false, narrowed := true }
def HeadBackUptoSaid : Prop := headBackUptoRow.holds Try.pinned (OpenSpec.upto headBackSpec)

/-- 'gantletlaw07.HeadOne', WHERE WHAT IT READS IS OF BULK AT MOST 1048576: true; the input reads as it did. -/
def headOneUptoRow : OpenClaim := { program := "ythmgabfhibkaiaa", sum := "017ec611bb940a9d3454c1ac536cb292fa341fdcacfbc21f27f385dee0f91387", func := "gantlet/gantletlaw07.HeadOne", spec := "headOne", apart := false, narrowed := true }
def HeadOneUptoSaid : Prop := headOneUptoRow.holds Try.pinned (OpenSpec.upto headOneSpec)

/-- 'gantletlaw07.HeadSizes', WHERE WHAT IT READS IS OF BULK AT MOST 1048576: true; the input reads as it did. -/
def headSizesUptoRow : OpenClaim := { program := "ythmgabfhibkaiaa", sum := "017ec611bb940a9d3454c1ac536cb292fa341fdcacfbc21f27f385dee0f91387", func := "gantlet/gantletlaw07.HeadSizes", spec := "headSizes", apart := false, narrowed := true }
def HeadSizesUptoSaid : Prop := headSizesUptoRow.holds Try.pinned (OpenSpec.upto headSizesSpec)

end Rows
end Go.Proofs.Ythmgabfhibkaiaa
