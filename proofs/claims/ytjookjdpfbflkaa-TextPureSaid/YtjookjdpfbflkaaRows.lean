/-
  No cell of these rows narrows 'for every input' (looked for: loops, veiled, ifaces, maps, wideKeys, modest, calm, conditions, laid).
  DERIVED. THE GIVEN ROWS OF THIS SEAT. 5 by the template 'for every input the law returns true; each argument reads behind the call as it read before'; 0 by the template 'total and deterministic' (their statements: YtjookjdpfbflkaaTotals.lean).
  GIVEN WITH THE SEED: the statements are not yours to turn. If you find one false, say at which input.
  Laid BY PROGRAM, IN A SANDBOX (cutbox-rows.mjs): the forced cells as the released guide's own fill.sh prints them over the translation 4917ae4a435a595b… (all of the seat's roots in one cut). By AI agents, Wed Nov 11 2026. No macro, syntax, notation, axiom, sorry.
-/
import Derived.Test.YtjookjdpfbflkaaChecked
import GoSem.Claim
import GoSem.ClaimJoined
import GoSem.ClaimMapViews
import Derived.JoinedTies
import Derived.KernelRfl
namespace Go.Proofs.Ytjookjdpfbflkaa
/- THE CELL 'sum', in the pinned program and in every row, IS THE sha256 OF THE DUMP (.gsa) THAT YtjookjdpfbflkaaProg.lean LOADS. Nothing in Lean hashes anything: it is a label: what it is worth is what the hold of that sum in a sandbox is worth. -/
noncomputable def Try.pinned : Pinned := { name := "ytjookjdpfbflkaa", sum := "4917ae4a435a595b8bd106faed5b3c7440a1f27bf058d2c74323ab0a7cb92743", checked := Try.checked }
namespace Rows
def none {H : Type} : Left H := { results := [], args := [] }

/-- 'gantletlaw14.TextChecks': WHATEVER THE INPUT: true; the input reads as it did. -/
def textChecksSpec : ChangeSpec := { name := "textChecks", fn := fun _ => fun
  | [d1, d2, d3] => { results := [.lit (.bool true)], args := [d1, d2, d3] }
  | _ => none }
def textChecksRow : OpenClaim := { program := "ytjookjdpfbflkaa", sum := "4917ae4a435a595b8bd106faed5b3c7440a1f27bf058d2c74323ab0a7cb92743", func := "gantlet/gantletlaw14.TextChecks", spec := "textChecks", inPlace := ["internal/bytealg.IndexByteString"], apart := false }
def TextChecksSaid : Prop := textChecksRow.holds Try.pinned (OpenSpec.ofChange textChecksSpec)

/-- ITS FALSE NEIGHBOUR: 'it returns false'. Refute it at one input. -/
def textChecksWrong : ChangeSpec := { name := "textChecks", fn := fun _ => fun
  | [d1, d2, d3] => { results := [.lit (.bool false)], args := [d1, d2, d3] }
  | _ => none }
def TextChecksWrongFalsely : Prop := textChecksRow.holds Try.pinned (OpenSpec.ofChange textChecksWrong)

/-- 'gantletlaw14.TextWhole': WHATEVER THE INPUT: true; the input reads as it did. -/
def textWholeSpec : ChangeSpec := { name := "textWhole", fn := fun _ => fun
  | [d1, d2] => { results := [.lit (.bool true)], args := [d1, d2] }
  | _ => none }
def textWholeRow : OpenClaim := { program := "ytjookjdpfbflkaa", sum := "4917ae4a435a595b8bd106faed5b3c7440a1f27bf058d2c74323ab0a7cb92743", func := "gantlet/gantletlaw14.TextWhole", spec := "textWhole", inPlace := ["internal/bytealg.IndexByteString"], apart := false }
def TextWholeSaid : Prop := textWholeRow.holds Try.pinned (OpenSpec.ofChange textWholeSpec)

/-- ITS FALSE NEIGHBOUR: 'it returns false'. Refute it at one input. -/
def textWholeWrong : ChangeSpec := { name := "textWhole", fn := fun _ => fun
  | [d1, d2] => { results := [.lit (.bool false)], args := [d1, d2] }
  | _ => none }
def TextWholeWrongFalsely : Prop := textWholeRow.holds Try.pinned (OpenSpec.ofChange textWholeWrong)

/-- 'gantletlaw14.TextParts': WHATEVER THE INPUT: true; the input reads as it did. -/
def textPartsSpec : ChangeSpec := { name := "textParts", fn := fun _ => fun
  | [d1, d2, d3] => { results := [.lit (.bool true)], args := [d1, d2, d3] }
  | _ => none }
def textPartsRow : OpenClaim := { program := "ytjookjdpfbflkaa", sum := "4917ae4a435a595b8bd106faed5b3c7440a1f27bf058d2c74323ab0a7cb92743", func := "gantlet/gantletlaw14.TextParts", spec := "textParts", inPlace := ["internal/bytealg.IndexByteString"], apart := false }
def TextPartsSaid : Prop := textPartsRow.holds Try.pinned (OpenSpec.ofChange textPartsSpec)

/-- ITS FALSE NEIGHBOUR: 'it returns false'. Refute it at one input. -/
def textPartsWrong : ChangeSpec := { name := "textParts", fn := fun _ => fun
  | [d1, d2, d3] => { results := [.lit (.bool false)], args := [d1, d2, d3] }
  | _ => none }
def TextPartsWrongFalsely : Prop := textPartsRow.holds Try.pinned (OpenSpec.ofChange textPartsWrong)

/-- 'gantletlaw14.TextFront': WHATEVER THE INPUT: true; the input reads as it did. -/
def textFrontSpec : ChangeSpec := { name := "textFront", fn := fun _ => fun
  | [d1, d2] => { results := [.lit (.bool true)], args := [d1, d2] }
  | _ => none }
def textFrontRow : OpenClaim := { program := "ytjookjdpfbflkaa", sum := "4917ae4a435a595b8bd106faed5b3c7440a1f27bf058d2c74323ab0a7cb92743", func := "gantlet/gantletlaw14.TextFront", spec := "textFront", inPlace := ["internal/bytealg.IndexByteString"], apart := false }
def TextFrontSaid : Prop := textFrontRow.holds Try.pinned (OpenSpec.ofChange textFrontSpec)

/-- ITS FALSE NEIGHBOUR: 'it returns false'. Refute it at one input. -/
def textFrontWrong : ChangeSpec := { name := "textFront", fn := fun _ => fun
  | [d1, d2] => { results := [.lit (.bool false)], args := [d1, d2] }
  | _ => none }
def TextFrontWrongFalsely : Prop := textFrontRow.holds Try.pinned (OpenSpec.ofChange textFrontWrong)

/-- 'gantletlaw14.TextPure': WHATEVER THE INPUT: true; the input reads as it did. -/
def textPureSpec : ChangeSpec := { name := "textPure", fn := fun _ => fun
  | [d1, d2, d3] => { results := [.lit (.bool true)], args := [d1, d2, d3] }
  | _ => none }
def textPureRow : OpenClaim := { program := "ytjookjdpfbflkaa", sum := "4917ae4a435a595b8bd106faed5b3c7440a1f27bf058d2c74323ab0a7cb92743", func := "gantlet/gantletlaw14.TextPure", spec := "textPure", inPlace := ["internal/bytealg.IndexByteString"], apart := false }
def TextPureSaid : Prop := textPureRow.holds Try.pinned (OpenSpec.ofChange textPureSpec)

/-- ITS FALSE NEIGHBOUR: 'it returns false'. Refute it at one input. -/
def textPureWrong : ChangeSpec := { name := "textPure", fn := fun _ => fun
  | [d1, d2, d3] => { results := [.lit (.bool false)], args := [d1, d2, d3] }
  | _ => none }
def TextPureWrongFalsely : Prop := textPureRow.holds Try.pinned (OpenSpec.ofChange textPureWrong)

/- THE SECOND FORM. 'bulk': how many values and letters a reading holds, each counted each time it is reached (what is shared counts as often as it is met; a slice's spare places count too). A statement '..UptoSaid' is the law's where the arguments, and the package variables that the reading takes, are together of bulk at most 1048576: NARROWER than '..Said'. Prove '..Said' where nothing that the law and all that it calls make is longer than what came in: it says more and counts as full. Else prove '..UptoSaid'. A law counts once. -/
mutual
def uptoBulk {H : Type} : DataW H → Nat
  | .lit (.string bytes) => bytes.length + 1
  | .lit _ => 1
  | .nil => 1
  | .ptr d => uptoBulk d + 1
  | .slice elems spare => uptoBulkAll elems + uptoBulkAll spare + 1
  | .agg parts => uptoBulkAll parts + 1
  | .iface _ d => uptoBulk d + 1
  | .map entries => uptoBulkEntries entries + 1
  | .held _ => 1
def uptoBulkAll {H : Type} : List (DataW H) → Nat
  | [] => 0
  | d :: r => uptoBulk d + uptoBulkAll r
def uptoBulkEntries {H : Type} : List (Lit × DataW H) → Nat
  | [] => 0
  | x :: r => uptoBulkEntry x + uptoBulkEntries r
def uptoBulkEntry {H : Type} : Lit × DataW H → Nat
  | (.string bytes, d) => bytes.length + uptoBulk d + 1
  | (_, d) => uptoBulk d + 1
 end
def uptoSmall : (H : Type) → List (DataW H) → Bool := fun _ ds => decide (uptoBulkAll ds ≤ 1048576)
def OpenSpec.upto (s : _root_.Go.ChangeSpec) : _root_.Go.OpenSpec := { _root_.Go.OpenSpec.ofChange s with cond := some uptoSmall }

/-- 'gantletlaw14.TextChecks', WHERE WHAT IT READS IS OF BULK AT MOST 1048576: true; the input reads as it did. -/
def textChecksUptoRow : OpenClaim := { program := "ytjookjdpfbflkaa", sum := "4917ae4a435a595b8bd106faed5b3c7440a1f27bf058d2c74323ab0a7cb92743", func := "gantlet/gantletlaw14.TextChecks", spec := "textChecks", inPlace := ["internal/bytealg.IndexByteString"], apart := false, narrowed := true }
def TextChecksUptoSaid : Prop := textChecksUptoRow.holds Try.pinned (OpenSpec.upto textChecksSpec)

/-- 'gantletlaw14.TextWhole', WHERE WHAT IT READS IS OF BULK AT MOST 1048576: true; the input reads as it did. -/
def textWholeUptoRow : OpenClaim := { program := "ytjookjdpfbflkaa", sum := "4917ae4a435a595b8bd106faed5b3c7440a1f27bf058d2c74323ab0a7cb92743", func := "gantlet/gantletlaw14.TextWhole", spec := "textWhole", inPlace := ["internal/bytealg.IndexByteString"], apart := false, narrowed := true }
def TextWholeUptoSaid : Prop := textWholeUptoRow.holds Try.pinned (OpenSpec.upto textWholeSpec)

/-- 'gantletlaw14.TextParts', WHERE WHAT IT READS IS OF BULK AT MOST 1048576: true; the input reads as it did. -/
def textPartsUptoRow : OpenClaim := { program := "ytjookjdpfbflkaa", sum := "4917ae4a435a595b8bd106faed5b3c7440a1f27bf058d2c74323ab0a7cb92743", func := "gantlet/gantletlaw14.TextParts", spec := "textParts", inPlace := ["internal/bytealg.IndexByteString"], apart := false, narrowed := true }
def TextPartsUptoSaid : Prop := textPartsUptoRow.holds Try.pinned (OpenSpec.upto textPartsSpec)

/-- 'gantletlaw14.TextFront', WHERE WHAT IT READS IS OF BULK AT MOST 1048576: true; the input reads as it did. -/
def textFrontUptoRow : OpenClaim := { program := "ytjookjdpfbflkaa", sum := "4917ae4a435a595b8bd106faed5b3c7440a1f27bf058d2c74323ab0a7cb92743", func := "gantlet/gantletlaw14.TextFront", spec := "textFront", inPlace := ["internal/bytealg.IndexByteString"], apart := false, narrowed := true }
def TextFrontUptoSaid : Prop := textFrontUptoRow.holds Try.pinned (OpenSpec.upto textFrontSpec)

/-- 'gantletlaw14.TextPure', WHERE WHAT IT READS IS OF BULK AT MOST 1048576: true; the input reads as it did. -/
def textPureUptoRow : OpenClaim := { program := "ytjookjdpfbflkaa", sum := "4917ae4a435a595b8bd106faed5b3c7440a1f27bf058d2c74323ab0a7cb92743", func := "gantlet/gantletlaw14.TextPure", spec := "textPure", inPlace := ["internal/bytealg.IndexByteString"], apart := false, narrowed := true }
def TextPureUptoSaid : Prop := textPureUptoRow.holds Try.pinned (OpenSpec.upto textPureSpec)

end Rows
end Go.Proofs.Ytjookjdpfbflkaa
