/-
  No cell of these rows narrows 'for every input' (looked for: loops, veiled, ifaces, maps, wideKeys, modest, calm, conditions, laid).
  DERIVED. THE GIVEN ROWS OF THIS SEAT. 3 by the template 'for every input the law returns true; each argument reads behind the call as it read before'; 0 by the template 'total and deterministic' (their statements: YtcfommconnlhgaaTotals.lean).
  GIVEN WITH THE SEED: the statements are not yours to turn. If you find one false, say at which input.
  Laid BY PROGRAM, IN A SANDBOX (cutbox-rows.mjs): the forced cells as the released guide's own fill.sh prints them over the translation 914d84ca9436a6e0… (all of the seat's roots in one cut). By AI agents, Wed Nov 11 2026. No macro, syntax, notation, axiom, sorry.
-/
import Derived.Test.YtcfommconnlhgaaChecked
import GoSem.Claim
import GoSem.ClaimJoined
import GoSem.ClaimMapViews
import Derived.JoinedTies
import Derived.KernelRfl
namespace Go.Proofs.Ytcfommconnlhgaa
/- THE CELL 'sum', in the pinned program and in every row, IS THE sha256 OF THE DUMP (.gsa) THAT YtcfommconnlhgaaProg.lean LOADS. Nothing in Lean hashes anything: it is a label: what it is worth is what the hold of that sum in a sandbox is worth. -/
noncomputable def Try.pinned : Pinned := { name := "ytcfommconnlhgaa", sum := "914d84ca9436a6e025efae9483a32271081d714e1be5fe608fa957120c93ec90", checked := Try.checked }
namespace Rows
def none {H : Type} : Left H := { results := [], args := [] }

/-- 'gantletlaw20.GrammarParts': WHATEVER THE INPUT: true; the input reads as it did. -/
def grammarPartsSpec : ChangeSpec := { name := "grammarParts", fn := fun _ => fun
  | [d1, d2] => { results := [.lit (.bool true)], args := [d1, d2] }
  | _ => none }
def grammarPartsRow : OpenClaim := { program := "ytcfommconnlhgaa", sum := "914d84ca9436a6e025efae9483a32271081d714e1be5fe608fa957120c93ec90", func := "gantlet/gantletlaw20.GrammarParts", spec := "grammarParts", unfollowed := true, recurses := true, apart := false }
def GrammarPartsSaid : Prop := grammarPartsRow.holds Try.pinned (OpenSpec.ofChange grammarPartsSpec)

/-- ITS FALSE NEIGHBOUR: 'it returns false'. Refute it at one input. -/
def grammarPartsWrong : ChangeSpec := { name := "grammarParts", fn := fun _ => fun
  | [d1, d2] => { results := [.lit (.bool false)], args := [d1, d2] }
  | _ => none }
def GrammarPartsWrongFalsely : Prop := grammarPartsRow.holds Try.pinned (OpenSpec.ofChange grammarPartsWrong)

/-- 'gantletlaw20.GrammarTakes': WHATEVER THE INPUT: true; the input reads as it did. -/
def grammarTakesSpec : ChangeSpec := { name := "grammarTakes", fn := fun _ => fun
  | [d1, d2, d3] => { results := [.lit (.bool true)], args := [d1, d2, d3] }
  | _ => none }
def grammarTakesRow : OpenClaim := { program := "ytcfommconnlhgaa", sum := "914d84ca9436a6e025efae9483a32271081d714e1be5fe608fa957120c93ec90", func := "gantlet/gantletlaw20.GrammarTakes", spec := "grammarTakes", unfollowed := true, recurses := true, apart := false }
def GrammarTakesSaid : Prop := grammarTakesRow.holds Try.pinned (OpenSpec.ofChange grammarTakesSpec)

/-- ITS FALSE NEIGHBOUR: 'it returns false'. Refute it at one input. -/
def grammarTakesWrong : ChangeSpec := { name := "grammarTakes", fn := fun _ => fun
  | [d1, d2, d3] => { results := [.lit (.bool false)], args := [d1, d2, d3] }
  | _ => none }
def GrammarTakesWrongFalsely : Prop := grammarTakesRow.holds Try.pinned (OpenSpec.ofChange grammarTakesWrong)

/-- 'gantletlaw20.GrammarFront': WHATEVER THE INPUT: true; the input reads as it did. -/
def grammarFrontSpec : ChangeSpec := { name := "grammarFront", fn := fun _ => fun
  | [d1, d2, d3] => { results := [.lit (.bool true)], args := [d1, d2, d3] }
  | _ => none }
def grammarFrontRow : OpenClaim := { program := "ytcfommconnlhgaa", sum := "914d84ca9436a6e025efae9483a32271081d714e1be5fe608fa957120c93ec90", func := "gantlet/gantletlaw20.GrammarFront", spec := "grammarFront", unfollowed := true, recurses := true, apart := false }
def GrammarFrontSaid : Prop := grammarFrontRow.holds Try.pinned (OpenSpec.ofChange grammarFrontSpec)

/-- ITS FALSE NEIGHBOUR: 'it returns false'. Refute it at one input. -/
def grammarFrontWrong : ChangeSpec := { name := "grammarFront", fn := fun _ => fun
  | [d1, d2, d3] => { results := [.lit (.bool false)], args := [d1, d2, d3] }
  | _ => none }
def GrammarFrontWrongFalsely : Prop := grammarFrontRow.holds Try.pinned (OpenSpec.ofChange grammarFrontWrong)

/- THE SECOND FORM. 'bulk': how many values and letters a reading holds, each counted each time it is reached (what is shared counts as often as it is met; a slice's spare places count too). A statement '..UptoSaid' is the law's where the arguments, and the package variables that the reading takes, are together of bulk at most 1048576: NARROWER than '..Said'. Prove '..Said' where nothing that the law and all that it calls make is longer than what came in: it says more and counts as full. Else prove '..UptoSaid'. A law counts once. -/
mutual
def uptoBulk {H : Type} : DataW H → Nat
  | .lit (.string bytes) => bytes.length + 1
  | .lit _ => 1
  | .nil => 1
  | .ptr d => uptoBulk d + 1
  | .slice elems spare => uptoBulkAll elems + uptoBulkAll spare + 1
  | .agg parts => uptoBulkAll parts + 1
  | .iface _ d => uptoBulk d + 1
  | .map entries => uptoBulkEntries entries + 1
  | .held _ => 1
def uptoBulkAll {H : Type} : List (DataW H) → Nat
  | [] => 0
  | d :: r => uptoBulk d + uptoBulkAll r
def uptoBulkEntries {H : Type} : List (Lit × DataW H) → Nat
  | [] => 0
  | x :: r => uptoBulkEntry x + uptoBulkEntries r
def uptoBulkEntry {H : Type} : Lit × DataW H → Nat
  | (.string bytes, d) => bytes.length + uptoBulk d + 1
  | (_, d) => uptoBulk d + 1
 end
def uptoSmall : (H : Type) → List (DataW H) → Bool := fun _ ds => decide (uptoBulkAll ds ≤ 1048576)
def OpenSpec.upto (s : _root_.Go.ChangeSpec) : _root_.Go.OpenSpec := { _root_.Go.OpenSpec.ofChange s with cond := some uptoSmall }

/-- 'gantletlaw20.GrammarParts', WHERE WHAT IT READS IS OF BULK AT MOST 1048576: true; the input reads as it did. -/
def grammarPartsUptoRow : OpenClaim := { program := "ytcfommconnlhgaa", sum := "914d84ca9436a6e025efae9483a32271081d714e1be5fe608fa957120c93ec90", func := "gantlet/gantletlaw20.GrammarParts", spec := "grammarParts", unfollowed := true, recurses := true, apart := false, narrowed := true }
def GrammarPartsUptoSaid : Prop := grammarPartsUptoRow.holds Try.pinned (OpenSpec.upto grammarPartsSpec)

/-- 'gantletlaw20.GrammarTakes', WHERE WHAT IT READS IS OF BULK AT MOST 1048576: true; the input reads as it did. -/
def grammarTakesUptoRow : OpenClaim := { program := "ytcfommconnlhgaa", sum := "914d84ca9436a6e025efae9483a32271081d714e1be5fe608fa957120c93ec90", func := "gantlet/gantletlaw20.GrammarTakes", spec := "grammarTakes", unfollowed := true, recurses := true, apart := false, narrowed := true }
def GrammarTakesUptoSaid : Prop := grammarTakesUptoRow.holds Try.pinned (OpenSpec.upto grammarTakesSpec)

/-- 'gantletlaw20.GrammarFront', WHERE WHAT IT READS IS OF BULK AT MOST 1048576: true; the input reads as it did. -/
def grammarFrontUptoRow : OpenClaim := { program := "ytcfommconnlhgaa", sum := "914d84ca9436a6e025efae9483a32271081d714e1be5fe608fa957120c93ec90", func := "gantlet/gantletlaw20.GrammarFront", spec := "grammarFront", unfollowed := true, recurses := true, apart := false, narrowed := true }
def GrammarFrontUptoSaid : Prop := grammarFrontUptoRow.holds Try.pinned (OpenSpec.upto grammarFrontSpec)

end Rows
end Go.Proofs.Ytcfommconnlhgaa
