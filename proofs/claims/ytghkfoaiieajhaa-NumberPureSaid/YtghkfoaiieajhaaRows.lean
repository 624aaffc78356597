/-
  No cell of these rows narrows 'for every input' (looked for: loops, veiled, ifaces, maps, wideKeys, modest, calm, conditions, laid).
  DERIVED. THE GIVEN ROWS OF THIS SEAT. 6 by the template 'for every input the law returns true; each argument reads behind the call as it read before'; 0 by the template 'total and deterministic' (their statements: YtghkfoaiieajhaaTotals.lean).
  GIVEN WITH THE SEED: the statements are not yours to turn. If you find one false, say at which input.
  Laid BY PROGRAM, IN A SANDBOX (cutbox-rows.mjs): the forced cells as the released guide's own fill.sh prints them over the translation c4d17580c6463ebe… (all of the seat's roots in one cut). By AI agents, Wed Nov 11 2026. No macro, syntax, notation, axiom, sorry.
-/
import Derived.Test.YtghkfoaiieajhaaChecked
import GoSem.Claim
import GoSem.ClaimJoined
import GoSem.ClaimMapViews
import Derived.JoinedTies
import Derived.KernelRfl
namespace Go.Proofs.Ytghkfoaiieajhaa
/- THE CELL 'sum', in the pinned program and in every row, IS THE sha256 OF THE DUMP (.gsa) THAT YtghkfoaiieajhaaProg.lean LOADS. Nothing in Lean hashes anything: it is a label: what it is worth is what the hold of that sum in a sandbox is worth. -/
noncomputable def Try.pinned : Pinned := { name := "ytghkfoaiieajhaa", sum := "c4d17580c6463ebedb08323b633eeb96facba637e1adda046962d7ba38e63288", checked := Try.checked }
namespace Rows
def none {H : Type} : Left H := { results := [], args := [] }

/-- 'gantletlaw10.NumberChecks': WHATEVER THE INPUT: true; the input reads as it did. -/
def numberChecksSpec : ChangeSpec := { name := "numberChecks", fn := fun _ => fun
  | [d1, d2, d3] => { results := [.lit (.bool true)], args := [d1, d2, d3] }
  | _ => none }
def numberChecksRow : OpenClaim := { program := "ytghkfoaiieajhaa", sum := "c4d17580c6463ebedb08323b633eeb96facba637e1adda046962d7ba38e63288", func := "gantlet/gantletlaw10.NumberChecks", spec := "numberChecks", apart := false }
def NumberChecksSaid : Prop := numberChecksRow.holds Try.pinned (OpenSpec.ofChange numberChecksSpec)

/-- ITS FALSE NEIGHBOUR: 'it returns false'. Refute it at one input. -/
def numberChecksWrong : ChangeSpec := { name := "numberChecks", fn := fun _ => fun
  | [d1, d2, d3] => { results := [.lit (.bool false)], args := [d1, d2, d3] }
  | _ => none }
def NumberChecksWrongFalsely : Prop := numberChecksRow.holds Try.pinned (OpenSpec.ofChange numberChecksWrong)

/-- 'gantletlaw10.NumberInts': WHATEVER THE INPUT: true; the input reads as it did. -/
def numberIntsSpec : ChangeSpec := { name := "numberInts", fn := fun _ => fun
  | [d1, d2] => { results := [.lit (.bool true)], args := [d1, d2] }
  | _ => none }
def numberIntsRow : OpenClaim := { program := "ytghkfoaiieajhaa", sum := "c4d17580c6463ebedb08323b633eeb96facba637e1adda046962d7ba38e63288", func := "gantlet/gantletlaw10.NumberInts", spec := "numberInts", apart := false }
def NumberIntsSaid : Prop := numberIntsRow.holds Try.pinned (OpenSpec.ofChange numberIntsSpec)

/-- ITS FALSE NEIGHBOUR: 'it returns false'. Refute it at one input. -/
def numberIntsWrong : ChangeSpec := { name := "numberInts", fn := fun _ => fun
  | [d1, d2] => { results := [.lit (.bool false)], args := [d1, d2] }
  | _ => none }
def NumberIntsWrongFalsely : Prop := numberIntsRow.holds Try.pinned (OpenSpec.ofChange numberIntsWrong)

/-- 'gantletlaw10.NumberBack': WHATEVER THE INPUT: true; the input reads as it did. -/
def numberBackSpec : ChangeSpec := { name := "numberBack", fn := fun _ => fun
  | [d] => { results := [.lit (.bool true)], args := [d] }
  | _ => none }
def numberBackRow : OpenClaim := { program := "ytghkfoaiieajhaa", sum := "c4d17580c6463ebedb08323b633eeb96facba637e1adda046962d7ba38e63288", func := "gantlet/gantletlaw10.NumberBack", spec := "numberBack", apart := false }
def NumberBackSaid : Prop := numberBackRow.holds Try.pinned (OpenSpec.ofChange numberBackSpec)

/-- ITS FALSE NEIGHBOUR: 'it returns false'. Refute it at one input. -/
def numberBackWrong : ChangeSpec := { name := "numberBack", fn := fun _ => fun
  | [d] => { results := [.lit (.bool false)], args := [d] }
  | _ => none }
def NumberBackWrongFalsely : Prop := numberBackRow.holds Try.pinned (OpenSpec.ofChange numberBackWrong)

/-- 'gantletlaw10.NumberOne': WHATEVER THE INPUT: true; the input reads as it did. -/
def numberOneSpec : ChangeSpec := { name := "numberOne", fn := fun _ => fun
  | [d] => { results := [.lit (.bool true)], args := [d] }
  | _ => none }
def numberOneRow : OpenClaim := { program := "ytghkfoaiieajhaa", sum := "c4d17580c6463ebedb08323b633eeb96facba637e1adda046962d7ba38e63288", func := "gantlet/gantletlaw10.NumberOne", spec := "numberOne", apart := false }
def NumberOneSaid : Prop := numberOneRow.holds Try.pinned (OpenSpec.ofChange numberOneSpec)

/-- ITS FALSE NEIGHBOUR: 'it returns false'. Refute it at one input. -/
def numberOneWrong : ChangeSpec := { name := "numberOne", fn := fun _ => fun
  | [d] => { results := [.lit (.bool false)], args := [d] }
  | _ => none }
def NumberOneWrongFalsely : Prop := numberOneRow.holds Try.pinned (OpenSpec.ofChange numberOneWrong)

/-- 'gantletlaw10.NumberPure': WHATEVER THE INPUT: true; the input reads as it did. -/
def numberPureSpec : ChangeSpec := { name := "numberPure", fn := fun _ => fun
  | [d1, d2, d3] => { results := [.lit (.bool true)], args := [d1, d2, d3] }
  | _ => none }
def numberPureRow : OpenClaim := { program := "ytghkfoaiieajhaa", sum := "c4d17580c6463ebedb08323b633eeb96facba637e1adda046962d7ba38e63288", func := "gantlet/gantletlaw10.NumberPure", spec := "numberPure", apart := false }
def NumberPureSaid : Prop := numberPureRow.holds Try.pinned (OpenSpec.ofChange numberPureSpec)

/-- ITS FALSE NEIGHBOUR: 'it returns false'. Refute it at one input. -/
def numberPureWrong : ChangeSpec := { name := "numberPure", fn := fun _ => fun
  | [d1, d2, d3] => { results := [.lit (.bool false)], args := [d1, d2, d3] }
  | _ => none }
def NumberPureWrongFalsely : Prop := numberPureRow.holds Try.pinned (OpenSpec.ofChange numberPureWrong)

/-- 'gantletlaw10.NumberRise': WHATEVER THE INPUT: true; the input reads as it did. -/
def numberRiseSpec : ChangeSpec := { name := "numberRise", fn := fun _ => fun
  | [d1, d2] => { results := [.lit (.bool true)], args := [d1, d2] }
  | _ => none }
def numberRiseRow : OpenClaim := { program := "ytghkfoaiieajhaa", sum := "c4d17580c6463ebedb08323b633eeb96facba637e1adda046962d7ba38e63288", func := "gantlet/gantletlaw10.NumberRise", spec := "numberRise", apart := false }
def NumberRiseSaid : Prop := numberRiseRow.holds Try.pinned (OpenSpec.ofChange numberRiseSpec)

/-- ITS FALSE NEIGHBOUR: 'it returns false'. Refute it at one input. -/
def numberRiseWrong : ChangeSpec := { name := "numberRise", fn := fun _ => fun
  | [d1, d2] => { results := [.lit (.bool false)], args := [d1, d2] }
  | _ => none }
def NumberRiseWrongFalsely : Prop := numberRiseRow.holds Try.pinned (OpenSpec.ofChange numberRiseWrong)

/- THE SECOND FORM. 'bulk': how many values and letters a reading holds, each counted each time it is reached (what is shared counts as often as it is met; a slice's spare places count too). A statement '..UptoSaid' is the law's where the arguments, and the package variables that the reading takes, are together of bulk at most 1048576: NARROWER than '..Said'. Prove '..Said' where nothing that the law and all that it calls make is longer than what came in: it says more and counts as full. Else prove '..UptoSaid'. A law counts once. -/
mutual
def uptoBulk {H : Type} : DataW H → Nat
  | .lit (.string bytes) => bytes.length + 1
  | .lit _ => 1
  | .nil => 1
  | .ptr d => uptoBulk d + 1
  | .slice elems spare => uptoBulkAll elems + uptoBulkAll spare + 1
  | .agg parts => uptoBulkAll parts + 1
  | .iface _ d => uptoBulk d + 1
  | .map entries => uptoBulkEntries entries + 1
  | .held _ => 1
def uptoBulkAll {H : Type} : List (DataW H) → Nat
  | [] => 0
  | d :: r => uptoBulk d + uptoBulkAll r
def uptoBulkEntries {H : Type} : List (Lit × DataW H) → Nat
  | [] => 0
  | x :: r => uptoBulkEntry x + uptoBulkEntries r
def uptoBulkEntry {H : Type} : Lit × DataW H → Nat
  | (.string bytes, d) => bytes.length + uptoBulk d + 1
  | (_, d) => uptoBulk d + 1
 end
def uptoSmall : (H : Type) → List (DataW H) → Bool := fun _ ds => decide (uptoBulkAll ds ≤ 1048576)
def OpenSpec.upto (s : _root_.Go.ChangeSpec) : _root_.Go.OpenSpec := { _root_.Go.OpenSpec.ofChange s with cond := some uptoSmall }

/-- 'gantletlaw10.NumberChecks', WHERE WHAT IT READS IS OF BULK AT MOST 1048576: true; the input reads as it did. -/
def numberChecksUptoRow : OpenClaim := { program := "ytghkfoaiieajhaa", sum := "c4d17580c6463ebedb08323b633eeb96facba637e1adda046962d7ba38e63288", func := "gantlet/gantletlaw10.NumberChecks", spec := "numberChecks", apart := false, narrowed := true }
def NumberChecksUptoSaid : Prop := numberChecksUptoRow.holds Try.pinned (OpenSpec.upto numberChecksSpec)

/-- 'gantletlaw10.NumberInts', WHERE WHAT IT READS IS OF BULK AT MOST 1048576: true; the input reads as it did. -/
def numberIntsUptoRow : OpenClaim := { program := "ytghkfoaiieajhaa", sum := "c4d17580c6463ebedb08323b633eeb96facba637e1adda046962d7ba38e63288", func := "gantlet/gantletlaw10.NumberInts", spec := "numberInts", apart := false, narrowed := true }
def NumberIntsUptoSaid : Prop := numberIntsUptoRow.holds Try.pinned (OpenSpec.upto numberIntsSpec)

/-- 'gantletlaw10.NumberBack', WHERE WHAT IT READS IS OF BULK AT MOST 1048576: true; the input reads as it did. -/
def numberBackUptoRow : OpenClaim := { program := "ytghkfoaiieajhaa", sum := "c4d17580c6463ebedb08323b633eeb96facba637e1adda046962d7ba38e63288", func := "gantlet/gantletlaw10.NumberBack", spec := "numberBack", apart := false, narrowed := true }
def NumberBackUptoSaid : Prop := numberBackUptoRow.holds Try.pinned (OpenSpec.upto numberBackSpec)

/-- 'gantletlaw10.NumberOne', WHERE WHAT IT READS IS OF BULK AT MOST 1048576: true; the input reads as it did. -/
def numberOneUptoRow : OpenClaim := { program := "ytghkfoaiieajhaa", sum := "c4d17580c6463ebedb08323b633eeb96facba637e1adda046962d7ba38e63288", func := "gantlet/gantletlaw10.NumberOne", spec := "numberOne", apart := false, narrowed := true }
def NumberOneUptoSaid : Prop := numberOneUptoRow.holds Try.pinned (OpenSpec.upto numberOneSpec)

/-- 'gantletlaw10.NumberPure', WHERE WHAT IT READS IS OF BULK AT MOST 1048576: true; the input reads as it did. -/
def numberPureUptoRow : OpenClaim := { program := "ytghkfoaiieajhaa", sum := "c4d17580c6463ebedb08323b633eeb96facba637e1adda046962d7ba38e63288", func := "gantlet/gantletlaw10.NumberPure", spec := "numberPure", apart := false, narrowed := true }
def NumberPureUptoSaid : Prop := numberPureUptoRow.holds Try.pinned (OpenSpec.upto numberPureSpec)

/-- 'gantletlaw10.NumberRise', WHERE WHAT IT READS IS OF BULK AT MOST 1048576: true; the input reads as it did. -/
def numberRiseUptoRow : OpenClaim := { program := "ytghkfoaiieajhaa", sum := "c4d17580c6463ebedb08323b633eeb96facba637e1adda046962d7ba38e63288", func := "gantlet/gantletlaw10.NumberRise", spec := "numberRise", apart := false, narrowed := true }
def NumberRiseUptoSaid : Prop := numberRiseUptoRow.holds Try.pinned (OpenSpec.upto numberRiseSpec)

end Rows
end Go.Proofs.Ytghkfoaiieajhaa
