/-
  No cell of these rows narrows 'for every input' (looked for: loops, veiled, ifaces, maps, wideKeys, modest, calm, conditions, laid).
  DERIVED. THE GIVEN ROWS OF THIS SEAT. 5 by the template 'for every input the law returns true; each argument reads behind the call as it read before'; 0 by the template 'total and deterministic' (their statements: YtpfconocipmcjaaTotals.lean).
  GIVEN WITH THE SEED: the statements are not yours to turn. If you find one false, say at which input.
  Laid BY PROGRAM, IN A SANDBOX (cutbox-rows.mjs): the forced cells as the released guide's own fill.sh prints them over the translation 612a06e4fb3cad82… (all of the seat's roots in one cut). By AI agents, Wed Nov 11 2026. No macro, syntax, notation, axiom, sorry.
-/
import Derived.Test.YtpfconocipmcjaaChecked
import GoSem.Claim
import GoSem.ClaimJoined
import GoSem.ClaimMapViews
import Derived.JoinedTies
import Derived.KernelRfl
namespace Go.Proofs.Ytpfconocipmcjaa
/- THE CELL 'sum', in the pinned program and in every row, IS THE sha256 OF THE DUMP (.gsa) THAT YtpfconocipmcjaaProg.lean LOADS. Nothing in Lean hashes anything: it is a label: what it is worth is what the hold of that sum in a sandbox is worth. -/
noncomputable def Try.pinned : Pinned := { name := "ytpfconocipmcjaa", sum := "612a06e4fb3cad8275831cbe98c245854c6f2903c25611e8cc52a3c77e8f993a", checked := Try.checked }
namespace Rows
def none {H : Type} : Left H := { results := [], args := [] }

/-- 'gantletlaw15.ValueWhole': WHATEVER THE INPUT: true; the input reads as it did. -/
def valueWholeSpec : ChangeSpec := { name := "valueWhole", fn := fun _ => fun
  | [d1, d2] => { results := [.lit (.bool true)], args := [d1, d2] }
  | _ => none }
def valueWholeRow : OpenClaim := { program := "ytpfconocipmcjaa", sum := "612a06e4fb3cad8275831cbe98c245854c6f2903c25611e8cc52a3c77e8f993a", func := "gantlet/gantletlaw15.ValueWhole", spec := "valueWhole", unfollowed := true, recurses := true, apart := false }
def ValueWholeSaid : Prop := valueWholeRow.holds Try.pinned (OpenSpec.ofChange valueWholeSpec)

/-- ITS FALSE NEIGHBOUR: 'it returns false'. Refute it at one input. -/
def valueWholeWrong : ChangeSpec := { name := "valueWhole", fn := fun _ => fun
  | [d1, d2] => { results := [.lit (.bool false)], args := [d1, d2] }
  | _ => none }
def ValueWholeWrongFalsely : Prop := valueWholeRow.holds Try.pinned (OpenSpec.ofChange valueWholeWrong)

/-- 'gantletlaw15.ValuePushes': WHATEVER THE INPUT: true; the input reads as it did. -/
def valuePushesSpec : ChangeSpec := { name := "valuePushes", fn := fun _ => fun
  | [d1, d2] => { results := [.lit (.bool true)], args := [d1, d2] }
  | _ => none }
def valuePushesRow : OpenClaim := { program := "ytpfconocipmcjaa", sum := "612a06e4fb3cad8275831cbe98c245854c6f2903c25611e8cc52a3c77e8f993a", func := "gantlet/gantletlaw15.ValuePushes", spec := "valuePushes", unfollowed := true, recurses := true, apart := false }
def ValuePushesSaid : Prop := valuePushesRow.holds Try.pinned (OpenSpec.ofChange valuePushesSpec)

/-- ITS FALSE NEIGHBOUR: 'it returns false'. Refute it at one input. -/
def valuePushesWrong : ChangeSpec := { name := "valuePushes", fn := fun _ => fun
  | [d1, d2] => { results := [.lit (.bool false)], args := [d1, d2] }
  | _ => none }
def ValuePushesWrongFalsely : Prop := valuePushesRow.holds Try.pinned (OpenSpec.ofChange valuePushesWrong)

/-- 'gantletlaw15.ValueFront': WHATEVER THE INPUT: true; the input reads as it did. -/
def valueFrontSpec : ChangeSpec := { name := "valueFront", fn := fun _ => fun
  | [d1, d2, d3] => { results := [.lit (.bool true)], args := [d1, d2, d3] }
  | _ => none }
def valueFrontRow : OpenClaim := { program := "ytpfconocipmcjaa", sum := "612a06e4fb3cad8275831cbe98c245854c6f2903c25611e8cc52a3c77e8f993a", func := "gantlet/gantletlaw15.ValueFront", spec := "valueFront", unfollowed := true, recurses := true, apart := false }
def ValueFrontSaid : Prop := valueFrontRow.holds Try.pinned (OpenSpec.ofChange valueFrontSpec)

/-- ITS FALSE NEIGHBOUR: 'it returns false'. Refute it at one input. -/
def valueFrontWrong : ChangeSpec := { name := "valueFront", fn := fun _ => fun
  | [d1, d2, d3] => { results := [.lit (.bool false)], args := [d1, d2, d3] }
  | _ => none }
def ValueFrontWrongFalsely : Prop := valueFrontRow.holds Try.pinned (OpenSpec.ofChange valueFrontWrong)

/-- 'gantletlaw15.ValueRight': WHATEVER THE INPUT: true; the input reads as it did. -/
def valueRightSpec : ChangeSpec := { name := "valueRight", fn := fun _ => fun
  | [d1, d2] => { results := [.lit (.bool true)], args := [d1, d2] }
  | _ => none }
def valueRightRow : OpenClaim := { program := "ytpfconocipmcjaa", sum := "612a06e4fb3cad8275831cbe98c245854c6f2903c25611e8cc52a3c77e8f993a", func := "gantlet/gantletlaw15.ValueRight", spec := "valueRight", unfollowed := true, recurses := true, apart := false }
def ValueRightSaid : Prop := valueRightRow.holds Try.pinned (OpenSpec.ofChange valueRightSpec)

/-- ITS FALSE NEIGHBOUR: 'it returns false'. Refute it at one input. -/
def valueRightWrong : ChangeSpec := { name := "valueRight", fn := fun _ => fun
  | [d1, d2] => { results := [.lit (.bool false)], args := [d1, d2] }
  | _ => none }
def ValueRightWrongFalsely : Prop := valueRightRow.holds Try.pinned (OpenSpec.ofChange valueRightWrong)

/-- 'gantletlaw15.ValueHeads': WHATEVER THE INPUT: true; the input reads as it did. -/
def valueHeadsSpec : ChangeSpec := { name := "valueHeads", fn := fun _ => fun
  | [d] => { results := [.lit (.bool true)], args := [d] }
  | _ => none }
def valueHeadsRow : OpenClaim := { program := "ytpfconocipmcjaa", sum := "612a06e4fb3cad8275831cbe98c245854c6f2903c25611e8cc52a3c77e8f993a", func := "gantlet/gantletlaw15.ValueHeads", spec := "valueHeads", unfollowed := true, recurses := true, apart := false }
def ValueHeadsSaid : Prop := valueHeadsRow.holds Try.pinned (OpenSpec.ofChange valueHeadsSpec)

/-- ITS FALSE NEIGHBOUR: 'it returns false'. Refute it at one input. -/
def valueHeadsWrong : ChangeSpec := { name := "valueHeads", fn := fun _ => fun
  | [d] => { results := [.lit (.bool false)], args := [d] }
  | _ => none }
def ValueHeadsWrongFalsely : Prop := valueHeadsRow.holds Try.pinned (OpenSpec.ofChange valueHeadsWrong)

/- THE SECOND FORM. 'bulk': how many values and letters a reading holds, each counted each time it is reached (what is shared counts as often as it is met; a slice's spare places count too). A statement '..UptoSaid' is the law's where the arguments, and the package variables that the reading takes, are together of bulk at most 1048576: NARROWER than '..Said'. Prove '..Said' where nothing that the law and all that it calls make is longer than what came in: it says more and counts as full. Else prove '..UptoSaid'. A law counts once. -/
mutual
def uptoBulk {H : Type} : DataW H → Nat
  | .lit (.string bytes) => bytes.length + 1
  | .lit _ => 1
  | .nil => 1
  | .ptr d => uptoBulk d + 1
  | .slice elems spare => uptoBulkAll elems + uptoBulkAll spare + 1
  | .agg parts => uptoBulkAll parts + 1
  | .iface _ d => uptoBulk d + 1
  | .map entries => uptoBulkEntries entries + 1
  | .held _ => 1
def uptoBulkAll {H : Type} : List (DataW H) → Nat
  | [] => 0
  | d :: r => uptoBulk d + uptoBulkAll r
def uptoBulkEntries {H : Type} : List (Lit × DataW H) → Nat
  | [] => 0
  | x :: r => uptoBulkEntry x + uptoBulkEntries r
def uptoBulkEntry {H : Type} : Lit × DataW H → Nat
  | (.string bytes, d) => bytes.length + uptoBulk d + 1
  | (_, d) => uptoBulk d + 1
 end
def uptoSmall : (H : Type) → List (DataW H) → Bool := fun _ ds => decide (uptoBulkAll ds ≤ 1048576)
def OpenSpec.upto (s : _root_.Go.ChangeSpec) : _root_.Go.OpenSpec := { _root_.Go.OpenSpec.ofChange s with cond := some uptoSmall }

/-- 'gantletlaw15.ValueWhole', WHERE WHAT IT READS IS OF BULK AT MOST 1048576: true; the input reads as it did. -/
def valueWholeUptoRow : OpenClaim := { program := "ytpfconocipmcjaa", sum := "612a06e4fb3cad8275831cbe98c245854c6f2903c25611e8cc52a3c77e8f993a", func := "gantlet/gantletlaw15.ValueWhole", spec := "valueWhole", unfollowed := true, recurses := true, apart := false, narrowed := true }
def ValueWholeUptoSaid : Prop := valueWholeUptoRow.holds Try.pinned (OpenSpec.upto valueWholeSpec)

/-- 'gantletlaw15.ValuePushes', WHERE WHAT IT READS IS OF BULK AT MOST 1048576: true; the input reads as it did. -/
def valuePushesUptoRow : OpenClaim := { program := "ytpfconocipmcjaa", sum := "612a06e4fb3cad8275831cbe98c245854c6f2903c25611e8cc52a3c77e8f993a", func := "gantlet/gantletlaw15.ValuePushes", spec := "valuePushes", unfollowed := true, recurses := true, apart := false, narrowed := true }
def ValuePushesUptoSaid : Prop := valuePushesUptoRow.holds Try.pinned (OpenSpec.upto valuePushesSpec)

/-- 'gantletlaw15.ValueFront', WHERE WHAT IT READS IS OF BULK AT MOST 1048576: true; the input reads as it did. -/
def valueFrontUptoRow : OpenClaim := { program := "ytpfconocipmcjaa", sum := "612a06e4fb3cad8275831cbe98c245854c6f2903c25611e8cc52a3c77e8f993a", func := "gantlet/gantletlaw15.ValueFront", spec := "valueFront", unfollowed := true, recurses := true, apart := false, narrowed := true }
def ValueFrontUptoSaid : Prop := valueFrontUptoRow.holds Try.pinned (OpenSpec.upto valueFrontSpec)

/-- 'gantletlaw15.ValueRight', WHERE WHAT IT READS IS OF BULK AT MOST 1048576: true; the input reads as it did. -/
def valueRightUptoRow : OpenClaim := { program := "ytpfconocipmcjaa", sum := "612a06e4fb3cad8275831cbe98c245854c6f2903c25611e8cc52a3c77e8f993a", func := "gantlet/gantletlaw15.ValueRight", spec := "valueRight", unfollowed := true, recurses := true, apart := false, narrowed := true }
def ValueRightUptoSaid : Prop := valueRightUptoRow.holds Try.pinned (OpenSpec.upto valueRightSpec)

/-- 'gantletlaw15.ValueHeads', WHERE WHAT IT READS IS OF BULK AT MOST 1048576: true; the input reads as it did. -/
def valueHeadsUptoRow : OpenClaim := { program := "ytpfconocipmcjaa", sum := "612a06e4fb3cad8275831cbe98c245854c6f2903c25611e8cc52a3c77e8f993a", func := "gantlet/gantletlaw15.ValueHeads", spec := "valueHeads", unfollowed := true, recurses := true, apart := false, narrowed := true }
def ValueHeadsUptoSaid : Prop := valueHeadsUptoRow.holds Try.pinned (OpenSpec.upto valueHeadsSpec)

end Rows
end Go.Proofs.Ytpfconocipmcjaa
