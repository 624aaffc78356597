/-
  No cell of these rows narrows 'for every input' (looked for: loops, veiled, ifaces, maps, wideKeys, modest, calm, conditions, laid).
  DERIVED. THE GIVEN ROWS OF THIS SEAT. 5 by the template 'for every input the law returns true; each argument reads behind the call as it read before'; 0 by the template 'total and deterministic' (their statements: YtidcmkmlcmjekaaTotals.lean).
  GIVEN WITH THE SEED: the statements are not yours to turn. If you find one false, say at which input.
  Laid BY PROGRAM, IN A SANDBOX (cutbox-rows.mjs): the forced cells as the released guide's own fill.sh prints them over the translation 54fbe787a7dc06c0… (all of the seat's roots in one cut). By AI agents, Wed Nov 11 2026. No macro, syntax, notation, axiom, sorry.
-/
import Derived.Test.YtidcmkmlcmjekaaChecked
import GoSem.Claim
import GoSem.ClaimJoined
import GoSem.ClaimMapViews
import Derived.JoinedTies
import Derived.KernelRfl
namespace Go.Proofs.Ytidcmkmlcmjekaa
/- THE CELL 'sum', in the pinned program and in every row, IS THE sha256 OF THE DUMP (.gsa) THAT YtidcmkmlcmjekaaProg.lean LOADS. Nothing in Lean hashes anything: it is a label: what it is worth is what the hold of that sum in a sandbox is worth. -/
noncomputable def Try.pinned : Pinned := { name := "ytidcmkmlcmjekaa", sum := "54fbe787a7dc06c0c9a67c2bb76190b671710db032aac80dc5be55cfadaa2f99", checked := Try.checked }
namespace Rows
def none {H : Type} : Left H := { results := [], args := [] }

/-- 'gantletlaw18.QueryNew': WHATEVER THE INPUT: true; the input reads as it did. -/
def queryNewSpec : ChangeSpec := { name := "queryNew", fn := fun _ => fun
  | [d] => { results := [.lit (.bool true)], args := [d] }
  | _ => none }
def queryNewRow : OpenClaim := { program := "ytidcmkmlcmjekaa", sum := "54fbe787a7dc06c0c9a67c2bb76190b671710db032aac80dc5be55cfadaa2f99", func := "gantlet/gantletlaw18.QueryNew", spec := "queryNew", unfollowed := true, recurses := true, apart := false }
def QueryNewSaid : Prop := queryNewRow.holds Try.pinned (OpenSpec.ofChange queryNewSpec)

/-- ITS FALSE NEIGHBOUR: 'it returns false'. Refute it at one input. -/
def queryNewWrong : ChangeSpec := { name := "queryNew", fn := fun _ => fun
  | [d] => { results := [.lit (.bool false)], args := [d] }
  | _ => none }
def QueryNewWrongFalsely : Prop := queryNewRow.holds Try.pinned (OpenSpec.ofChange queryNewWrong)

/-- 'gantletlaw18.QueryPlays': WHATEVER THE INPUT: true; the input reads as it did. -/
def queryPlaysSpec : ChangeSpec := { name := "queryPlays", fn := fun _ => fun
  | [d1, d2] => { results := [.lit (.bool true)], args := [d1, d2] }
  | _ => none }
def queryPlaysRow : OpenClaim := { program := "ytidcmkmlcmjekaa", sum := "54fbe787a7dc06c0c9a67c2bb76190b671710db032aac80dc5be55cfadaa2f99", func := "gantlet/gantletlaw18.QueryPlays", spec := "queryPlays", unfollowed := true, recurses := true, apart := false }
def QueryPlaysSaid : Prop := queryPlaysRow.holds Try.pinned (OpenSpec.ofChange queryPlaysSpec)

/-- ITS FALSE NEIGHBOUR: 'it returns false'. Refute it at one input. -/
def queryPlaysWrong : ChangeSpec := { name := "queryPlays", fn := fun _ => fun
  | [d1, d2] => { results := [.lit (.bool false)], args := [d1, d2] }
  | _ => none }
def QueryPlaysWrongFalsely : Prop := queryPlaysRow.holds Try.pinned (OpenSpec.ofChange queryPlaysWrong)

/-- 'gantletlaw18.QueryFirst': WHATEVER THE INPUT: true; the input reads as it did. -/
def queryFirstSpec : ChangeSpec := { name := "queryFirst", fn := fun _ => fun
  | [d1, d2, d3] => { results := [.lit (.bool true)], args := [d1, d2, d3] }
  | _ => none }
def queryFirstRow : OpenClaim := { program := "ytidcmkmlcmjekaa", sum := "54fbe787a7dc06c0c9a67c2bb76190b671710db032aac80dc5be55cfadaa2f99", func := "gantlet/gantletlaw18.QueryFirst", spec := "queryFirst", unfollowed := true, recurses := true, apart := false }
def QueryFirstSaid : Prop := queryFirstRow.holds Try.pinned (OpenSpec.ofChange queryFirstSpec)

/-- ITS FALSE NEIGHBOUR: 'it returns false'. Refute it at one input. -/
def queryFirstWrong : ChangeSpec := { name := "queryFirst", fn := fun _ => fun
  | [d1, d2, d3] => { results := [.lit (.bool false)], args := [d1, d2, d3] }
  | _ => none }
def QueryFirstWrongFalsely : Prop := queryFirstRow.holds Try.pinned (OpenSpec.ofChange queryFirstWrong)

/-- 'gantletlaw18.QueryLong': WHATEVER THE INPUT: true; the input reads as it did. -/
def queryLongSpec : ChangeSpec := { name := "queryLong", fn := fun _ => fun
  | [d1, d2] => { results := [.lit (.bool true)], args := [d1, d2] }
  | _ => none }
def queryLongRow : OpenClaim := { program := "ytidcmkmlcmjekaa", sum := "54fbe787a7dc06c0c9a67c2bb76190b671710db032aac80dc5be55cfadaa2f99", func := "gantlet/gantletlaw18.QueryLong", spec := "queryLong", unfollowed := true, recurses := true, apart := false }
def QueryLongSaid : Prop := queryLongRow.holds Try.pinned (OpenSpec.ofChange queryLongSpec)

/-- ITS FALSE NEIGHBOUR: 'it returns false'. Refute it at one input. -/
def queryLongWrong : ChangeSpec := { name := "queryLong", fn := fun _ => fun
  | [d1, d2] => { results := [.lit (.bool false)], args := [d1, d2] }
  | _ => none }
def QueryLongWrongFalsely : Prop := queryLongRow.holds Try.pinned (OpenSpec.ofChange queryLongWrong)

/-- 'gantletlaw18.QueryAlike': WHATEVER THE INPUT: true; the input reads as it did. -/
def queryAlikeSpec : ChangeSpec := { name := "queryAlike", fn := fun _ => fun
  | [d1, d2] => { results := [.lit (.bool true)], args := [d1, d2] }
  | _ => none }
def queryAlikeRow : OpenClaim := { program := "ytidcmkmlcmjekaa", sum := "54fbe787a7dc06c0c9a67c2bb76190b671710db032aac80dc5be55cfadaa2f99", func := "gantlet/gantletlaw18.QueryAlike", spec := "queryAlike", unfollowed := true, recurses := true, apart := false }
def QueryAlikeSaid : Prop := queryAlikeRow.holds Try.pinned (OpenSpec.ofChange queryAlikeSpec)

/-- ITS FALSE NEIGHBOUR: 'it returns false'. Refute it at one input. -/
def queryAlikeWrong : ChangeSpec := { name := "queryAlike", fn := fun _ => fun
  | [d1, d2] => { results := [.lit (.bool false)], args := [d1, d2] }
  | _ => none }
def QueryAlikeWrongFalsely : Prop := queryAlikeRow.holds Try.pinned (OpenSpec.ofChange queryAlikeWrong)

/- THE SECOND FORM. 'bulk': how many values and letters a reading holds, each counted each time it is reached (what is shared counts as often as it is met; a slice's spare places count too). A statement '..UptoSaid' is the law's where the arguments, and the package variables that the reading takes, are together of bulk at most 1048576: NARROWER than '..Said'. Prove '..Said' where nothing that the law and all that it calls make is longer than what came in: it says more and counts as full. Else prove '..UptoSaid'. A law counts once. -/
mutual
def uptoBulk {H : Type} : DataW H → Nat
  | .lit (.string bytes) => bytes.length + 1
  | .lit _ => 1
  | .nil => 1
  | .ptr d => uptoBulk d + 1
  | .slice elems spare => uptoBulkAll elems + uptoBulkAll spare + 1
  | .agg parts => uptoBulkAll parts + 1
  | .iface _ d => uptoBulk d + 1
  | .map entries => uptoBulkEntries entries + 1
  | .held _ => 1
def uptoBulkAll {H : Type} : List (DataW H) → Nat
  | [] => 0
  | d :: r => uptoBulk d + uptoBulkAll r
def uptoBulkEntries {H : Type} : List (Lit × DataW H) → Nat
  | [] => 0
  | x :: r => uptoBulkEntry x + uptoBulkEntries r
def uptoBulkEntry {H : Type} : Lit × DataW H → Nat
  | (.string bytes, d) => bytes.length + uptoBulk d + 1
  | (_, d) => uptoBulk d + 1
 end
def uptoSmall : (H : Type) → List (DataW H) → Bool := fun _ ds => decide (uptoBulkAll ds ≤ 1048576)
def OpenSpec.upto (s : _root_.Go.ChangeSpec) : _root_.Go.OpenSpec := { _root_.Go.OpenSpec.ofChange s with cond := some uptoSmall }

/-- 'gantletlaw18.QueryNew', WHERE WHAT IT READS IS OF BULK AT MOST 1048576: true; the input reads as it did. -/
def queryNewUptoRow : OpenClaim := { program := "ytidcmkmlcmjekaa", sum := "54fbe787a7dc06c0c9a67c2bb76190b671710db032aac80dc5be55cfadaa2f99", func := "gantlet/gantletlaw18.QueryNew", spec := "queryNew", unfollowed := true, recurses := true, apart := false, narrowed := true }
def QueryNewUptoSaid : Prop := queryNewUptoRow.holds Try.pinned (OpenSpec.upto queryNewSpec)

/-- 'gantletlaw18.QueryPlays', WHERE WHAT IT READS IS OF BULK AT MOST 1048576: true; the input reads as it did. -/
def queryPlaysUptoRow : OpenClaim := { program := "ytidcmkmlcmjekaa", sum := "54fbe787a7dc06c0c9a67c2bb76190b671710db032aac80dc5be55cfadaa2f99", func := "gantlet/gantletlaw18.QueryPlays", spec := "queryPlays", unfollowed := true, recurses := true, apart := false, narrowed := true }
def QueryPlaysUptoSaid : Prop := queryPlaysUptoRow.holds Try.pinned (OpenSpec.upto queryPlaysSpec)

/-- 'gantletlaw18.QueryFirst', WHERE WHAT IT READS IS OF BULK AT MOST 1048576: true; the input reads as it did. -/
def queryFirstUptoRow : OpenClaim := { program := "ytidcmkmlcmjekaa", sum := "54fbe787a7dc06c0c9a67c2bb76190b671710db032aac80dc5be55cfadaa2f99", func := "gantlet/gantletlaw18.QueryFirst", spec := "queryFirst", unfollowed := true, recurses := true, apart := false, narrowed := true }
def QueryFirstUptoSaid : Prop := queryFirstUptoRow.holds Try.pinned (OpenSpec.upto queryFirstSpec)

/-- 'gantletlaw18.QueryLong', WHERE WHAT IT READS IS OF BULK AT MOST 1048576: true; the input reads as it did. -/
def queryLongUptoRow : OpenClaim := { program := "ytidcmkmlcmjekaa", sum := "54fbe787a7dc06c0c9a67c2bb76190b671710db032aac80dc5be55cfadaa2f99", func := "gantlet/gantletlaw18.QueryLong", spec := "queryLong", unfollowed := true, recurses := true, apart := false, narrowed := true }
def QueryLongUptoSaid : Prop := queryLongUptoRow.holds Try.pinned (OpenSpec.upto queryLongSpec)

/-- 'gantletlaw18.QueryAlike', WHERE WHAT IT READS IS OF BULK AT MOST 1048576: true; the input reads as it did. -/
def queryAlikeUptoRow : OpenClaim := { program := "ytidcmkmlcmjekaa", sum := "54fbe787a7dc06c0c9a67c2bb76190b671710db032aac80dc5be55cfadaa2f99", func := "gantlet/gantletlaw18.QueryAlike", spec := "queryAlike", unfollowed := true, recurses := true, apart := false, narrowed := true }
def QueryAlikeUptoSaid : Prop := queryAlikeUptoRow.holds Try.pinned (OpenSpec.upto queryAlikeSpec)

end Rows
end Go.Proofs.Ytidcmkmlcmjekaa
