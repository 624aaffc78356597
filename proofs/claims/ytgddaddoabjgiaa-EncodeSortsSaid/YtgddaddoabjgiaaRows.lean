/-
  No cell of these rows narrows 'for every input' (looked for: loops, veiled, ifaces, maps, wideKeys, modest, calm, conditions, laid).
  DERIVED. THE GIVEN ROWS OF THIS SEAT. 5 by the template 'for every input the law returns true; each argument reads behind the call as it read before'; 0 by the template 'total and deterministic' (their statements: YtgddaddoabjgiaaTotals.lean).
  GIVEN WITH THE SEED: the statements are not yours to turn. If you find one false, say at which input.
  Laid BY PROGRAM, IN A SANDBOX (cutbox-rows.mjs): the forced cells as the released guide's own fill.sh prints them over the translation 20bb04ec7d6c6a54… (all of the seat's roots in one cut). By AI agents, Wed Nov 11 2026. No macro, syntax, notation, axiom, sorry.
-/
import Derived.Test.YtgddaddoabjgiaaChecked
import GoSem.Claim
import GoSem.ClaimJoined
import GoSem.ClaimMapViews
import Derived.JoinedTies
import Derived.KernelRfl
namespace Go.Proofs.Ytgddaddoabjgiaa
/- THE CELL 'sum', in the pinned program and in every row, IS THE sha256 OF THE DUMP (.gsa) THAT YtgddaddoabjgiaaProg.lean LOADS. Nothing in Lean hashes anything: it is a label: what it is worth is what the hold of that sum in a sandbox is worth. -/
noncomputable def Try.pinned : Pinned := { name := "ytgddaddoabjgiaa", sum := "20bb04ec7d6c6a54ffa8c9d8d0c77755d05fa7bac8c50a74b401aba668c0dc82", checked := Try.checked }
namespace Rows
def none {H : Type} : Left H := { results := [], args := [] }

/-- 'gantletlaw19.EncodeOne': WHATEVER THE INPUT: true; the input reads as it did. -/
def encodeOneSpec : ChangeSpec := { name := "encodeOne", fn := fun _ => fun
  | [d1, d2] => { results := [.lit (.bool true)], args := [d1, d2] }
  | _ => none }
def encodeOneRow : OpenClaim := { program := "ytgddaddoabjgiaa", sum := "20bb04ec7d6c6a54ffa8c9d8d0c77755d05fa7bac8c50a74b401aba668c0dc82", func := "gantlet/gantletlaw19.EncodeOne", spec := "encodeOne", inPlace := ["internal/abi.NoEscape", "internal/bytealg.MakeNoZero", "internal/bytealg.IndexByteString"], unfollowed := true, recurses := true, apart := false }
def EncodeOneSaid : Prop := encodeOneRow.holds Try.pinned (OpenSpec.ofChange encodeOneSpec)

/-- ITS FALSE NEIGHBOUR: 'it returns false'. Refute it at one input. -/
def encodeOneWrong : ChangeSpec := { name := "encodeOne", fn := fun _ => fun
  | [d1, d2] => { results := [.lit (.bool false)], args := [d1, d2] }
  | _ => none }
def EncodeOneWrongFalsely : Prop := encodeOneRow.holds Try.pinned (OpenSpec.ofChange encodeOneWrong)

/-- 'gantletlaw19.EncodeLists': WHATEVER THE INPUT: true; the input reads as it did. -/
def encodeListsSpec : ChangeSpec := { name := "encodeLists", fn := fun _ => fun
  | [d] => { results := [.lit (.bool true)], args := [d] }
  | _ => none }
def encodeListsRow : OpenClaim := { program := "ytgddaddoabjgiaa", sum := "20bb04ec7d6c6a54ffa8c9d8d0c77755d05fa7bac8c50a74b401aba668c0dc82", func := "gantlet/gantletlaw19.EncodeLists", spec := "encodeLists", inPlace := ["internal/abi.NoEscape", "internal/bytealg.MakeNoZero", "internal/bytealg.IndexByteString"], unfollowed := true, recurses := true, apart := false }
def EncodeListsSaid : Prop := encodeListsRow.holds Try.pinned (OpenSpec.ofChange encodeListsSpec)

/-- ITS FALSE NEIGHBOUR: 'it returns false'. Refute it at one input. -/
def encodeListsWrong : ChangeSpec := { name := "encodeLists", fn := fun _ => fun
  | [d] => { results := [.lit (.bool false)], args := [d] }
  | _ => none }
def EncodeListsWrongFalsely : Prop := encodeListsRow.holds Try.pinned (OpenSpec.ofChange encodeListsWrong)

/-- 'gantletlaw19.EncodeParts': WHATEVER THE INPUT: true; the input reads as it did. -/
def encodePartsSpec : ChangeSpec := { name := "encodeParts", fn := fun _ => fun
  | [d1, d2, d3] => { results := [.lit (.bool true)], args := [d1, d2, d3] }
  | _ => none }
def encodePartsRow : OpenClaim := { program := "ytgddaddoabjgiaa", sum := "20bb04ec7d6c6a54ffa8c9d8d0c77755d05fa7bac8c50a74b401aba668c0dc82", func := "gantlet/gantletlaw19.EncodeParts", spec := "encodeParts", inPlace := ["internal/abi.NoEscape", "internal/bytealg.MakeNoZero", "internal/bytealg.IndexByteString"], unfollowed := true, recurses := true, apart := false }
def EncodePartsSaid : Prop := encodePartsRow.holds Try.pinned (OpenSpec.ofChange encodePartsSpec)

/-- ITS FALSE NEIGHBOUR: 'it returns false'. Refute it at one input. -/
def encodePartsWrong : ChangeSpec := { name := "encodeParts", fn := fun _ => fun
  | [d1, d2, d3] => { results := [.lit (.bool false)], args := [d1, d2, d3] }
  | _ => none }
def EncodePartsWrongFalsely : Prop := encodePartsRow.holds Try.pinned (OpenSpec.ofChange encodePartsWrong)

/-- 'gantletlaw19.EncodeSorts': WHATEVER THE INPUT: true; the input reads as it did. -/
def encodeSortsSpec : ChangeSpec := { name := "encodeSorts", fn := fun _ => fun
  | [d] => { results := [.lit (.bool true)], args := [d] }
  | _ => none }
def encodeSortsRow : OpenClaim := { program := "ytgddaddoabjgiaa", sum := "20bb04ec7d6c6a54ffa8c9d8d0c77755d05fa7bac8c50a74b401aba668c0dc82", func := "gantlet/gantletlaw19.EncodeSorts", spec := "encodeSorts", inPlace := ["internal/abi.NoEscape", "internal/bytealg.MakeNoZero", "internal/bytealg.IndexByteString"], unfollowed := true, recurses := true, apart := false }
def EncodeSortsSaid : Prop := encodeSortsRow.holds Try.pinned (OpenSpec.ofChange encodeSortsSpec)

/-- ITS FALSE NEIGHBOUR: 'it returns false'. Refute it at one input. -/
def encodeSortsWrong : ChangeSpec := { name := "encodeSorts", fn := fun _ => fun
  | [d] => { results := [.lit (.bool false)], args := [d] }
  | _ => none }
def EncodeSortsWrongFalsely : Prop := encodeSortsRow.holds Try.pinned (OpenSpec.ofChange encodeSortsWrong)

/-- 'gantletlaw19.EncodeSigned': WHATEVER THE INPUT: true; the input reads as it did. -/
def encodeSignedSpec : ChangeSpec := { name := "encodeSigned", fn := fun _ => fun
  | [d1, d2] => { results := [.lit (.bool true)], args := [d1, d2] }
  | _ => none }
def encodeSignedRow : OpenClaim := { program := "ytgddaddoabjgiaa", sum := "20bb04ec7d6c6a54ffa8c9d8d0c77755d05fa7bac8c50a74b401aba668c0dc82", func := "gantlet/gantletlaw19.EncodeSigned", spec := "encodeSigned", inPlace := ["internal/abi.NoEscape", "internal/bytealg.MakeNoZero", "internal/bytealg.IndexByteString"], unfollowed := true, recurses := true, apart := false }
def EncodeSignedSaid : Prop := encodeSignedRow.holds Try.pinned (OpenSpec.ofChange encodeSignedSpec)

/-- ITS FALSE NEIGHBOUR: 'it returns false'. Refute it at one input. -/
def encodeSignedWrong : ChangeSpec := { name := "encodeSigned", fn := fun _ => fun
  | [d1, d2] => { results := [.lit (.bool false)], args := [d1, d2] }
  | _ => none }
def EncodeSignedWrongFalsely : Prop := encodeSignedRow.holds Try.pinned (OpenSpec.ofChange encodeSignedWrong)

/- THE SECOND FORM. 'bulk': how many values and letters a reading holds, each counted each time it is reached (what is shared counts as often as it is met; a slice's spare places count too). A statement '..UptoSaid' is the law's where the arguments, and the package variables that the reading takes, are together of bulk at most 1048576: NARROWER than '..Said'. Prove '..Said' where nothing that the law and all that it calls make is longer than what came in: it says more and counts as full. Else prove '..UptoSaid'. A law counts once. -/
mutual
def uptoBulk {H : Type} : DataW H → Nat
  | .lit (.string bytes) => bytes.length + 1
  | .lit _ => 1
  | .nil => 1
  | .ptr d => uptoBulk d + 1
  | .slice elems spare => uptoBulkAll elems + uptoBulkAll spare + 1
  | .agg parts => uptoBulkAll parts + 1
  | .iface _ d => uptoBulk d + 1
  | .map entries => uptoBulkEntries entries + 1
  | .held _ => 1
def uptoBulkAll {H : Type} : List (DataW H) → Nat
  | [] => 0
  | d :: r => uptoBulk d + uptoBulkAll r
def uptoBulkEntries {H : Type} : List (Lit × DataW H) → Nat
  | [] => 0
  | x :: r => uptoBulkEntry x + uptoBulkEntries r
def uptoBulkEntry {H : Type} : Lit × DataW H → Nat
  | (.string bytes, d) => bytes.length + uptoBulk d + 1
  | (_, d) => uptoBulk d + 1
 end
def uptoSmall : (H : Type) → List (DataW H) → Bool := fun _ ds => decide (uptoBulkAll ds ≤ 1048576)
def OpenSpec.upto (s : _root_.Go.ChangeSpec) : _root_.Go.OpenSpec := { _root_.Go.OpenSpec.ofChange s with cond := some uptoSmall }

/-- 'gantletlaw19.EncodeOne', WHERE WHAT IT READS IS OF BULK AT MOST 1048576: true; the input reads as it did. -/
def encodeOneUptoRow : OpenClaim := { program := "ytgddaddoabjgiaa", sum := "20bb04ec7d6c6a54ffa8c9d8d0c77755d05fa7bac8c50a74b401aba668c0dc82", func := "gantlet/gantletlaw19.EncodeOne", spec := "encodeOne", inPlace := ["internal/abi.NoEscape", "internal/bytealg.MakeNoZero", "internal/bytealg.IndexByteString"], unfollowed := true, recurses := true, apart := false, narrowed := true }
def EncodeOneUptoSaid : Prop := encodeOneUptoRow.holds Try.pinned (OpenSpec.upto encodeOneSpec)

/-- 'gantletlaw19.EncodeLists', WHERE WHAT IT READS IS OF BULK AT MOST 1048576: true; the input reads as it did. -/
def encodeListsUptoRow : OpenClaim := { program := "ytgddaddoabjgiaa", sum := "20bb04ec7d6c6a54ffa8c9d8d0c77755d05fa7bac8c50a74b401aba668c0dc82", func := "gantlet/gantletlaw19.EncodeLists", spec := "encodeLists", inPlace := ["internal/abi.NoEscape", "internal/bytealg.MakeNoZero", "internal/bytealg.IndexByteString"], unfollowed := true, recurses := true, apart := false, narrowed := true }
def EncodeListsUptoSaid : Prop := encodeListsUptoRow.holds Try.pinned (OpenSpec.upto encodeListsSpec)

/-- 'gantletlaw19.EncodeParts', WHERE WHAT IT READS IS OF BULK AT MOST 1048576: true; the input reads as it did. -/
def encodePartsUptoRow : OpenClaim := { program := "ytgddaddoabjgiaa", sum := "20bb04ec7d6c6a54ffa8c9d8d0c77755d05fa7bac8c50a74b401aba668c0dc82", func := "gantlet/gantletlaw19.EncodeParts", spec := "encodeParts", inPlace := ["internal/abi.NoEscape", "internal/bytealg.MakeNoZero", "internal/bytealg.IndexByteString"], unfollowed := true, recurses := true, apart := false, narrowed := true }
def EncodePartsUptoSaid : Prop := encodePartsUptoRow.holds Try.pinned (OpenSpec.upto encodePartsSpec)

/-- 'gantletlaw19.EncodeSorts', WHERE WHAT IT READS IS OF BULK AT MOST 1048576: true; the input reads as it did. -/
def encodeSortsUptoRow : OpenClaim := { program := "ytgddaddoabjgiaa", sum := "20bb04ec7d6c6a54ffa8c9d8d0c77755d05fa7bac8c50a74b401aba668c0dc82", func := "gantlet/gantletlaw19.EncodeSorts", spec := "encodeSorts", inPlace := ["internal/abi.NoEscape", "internal/bytealg.MakeNoZero", "internal/bytealg.IndexByteString"], unfollowed := true, recurses := true, apart := false, narrowed := true }
def EncodeSortsUptoSaid : Prop := encodeSortsUptoRow.holds Try.pinned (OpenSpec.upto encodeSortsSpec)

/-- 'gantletlaw19.EncodeSigned', WHERE WHAT IT READS IS OF BULK AT MOST 1048576: true; the input reads as it did. -/
def encodeSignedUptoRow : OpenClaim := { program := "ytgddaddoabjgiaa", sum := "20bb04ec7d6c6a54ffa8c9d8d0c77755d05fa7bac8c50a74b401aba668c0dc82", func := "gantlet/gantletlaw19.EncodeSigned", spec := "encodeSigned", inPlace := ["internal/abi.NoEscape", "internal/bytealg.MakeNoZero", "internal/bytealg.IndexByteString"], unfollowed := true, recurses := true, apart := false, narrowed := true }
def EncodeSignedUptoSaid : Prop := encodeSignedUptoRow.holds Try.pinned (OpenSpec.upto encodeSignedSpec)

end Rows
end Go.Proofs.Ytgddaddoabjgiaa
