/-
  No cell of these rows narrows 'for every input' (looked for: loops, veiled, ifaces, maps, wideKeys, modest, calm, conditions, laid).
  DERIVED. THE GIVEN ROWS OF THIS SEAT. 5 by the template 'for every input the law returns true; each argument reads behind the call as it read before'; 0 by the template 'total and deterministic' (their statements: YtpiejdncoeldeaaTotals.lean).
  GIVEN WITH THE SEED: the statements are not yours to turn. If you find one false, say at which input.
  Laid BY PROGRAM, IN A SANDBOX (cutbox-rows.mjs): the forced cells as the released guide's own fill.sh prints them over the translation cd3bcb9b11d3e953… (all of the seat's roots in one cut). By AI agents, Wed Nov 11 2026. No macro, syntax, notation, axiom, sorry.
-/
import Derived.Test.YtpiejdncoeldeaaChecked
import GoSem.Claim
import GoSem.ClaimJoined
import GoSem.ClaimMapViews
import Derived.JoinedTies
import Derived.KernelRfl
namespace Go.Proofs.Ytpiejdncoeldeaa
/- THE CELL 'sum', in the pinned program and in every row, IS THE sha256 OF THE DUMP (.gsa) THAT YtpiejdncoeldeaaProg.lean LOADS. Nothing in Lean hashes anything: it is a label: what it is worth is what the hold of that sum in a sandbox is worth. -/
noncomputable def Try.pinned : Pinned := { name := "ytpiejdncoeldeaa", sum := "cd3bcb9b11d3e9537d526f5e99b1debb5009088e230eb0172229708dd38141ff", checked := Try.checked }
namespace Rows
def none {H : Type} : Left H := { results := [], args := [] }

/-- 'gantletlaw16.OrderCompares': WHATEVER THE INPUT: true; the input reads as it did. -/
def orderComparesSpec : ChangeSpec := { name := "orderCompares", fn := fun _ => fun
  | [d1, d2] => { results := [.lit (.bool true)], args := [d1, d2] }
  | _ => none }
def orderComparesRow : OpenClaim := { program := "ytpiejdncoeldeaa", sum := "cd3bcb9b11d3e9537d526f5e99b1debb5009088e230eb0172229708dd38141ff", func := "gantlet/gantletlaw16.OrderCompares", spec := "orderCompares", apart := false }
def OrderComparesSaid : Prop := orderComparesRow.holds Try.pinned (OpenSpec.ofChange orderComparesSpec)

/-- ITS FALSE NEIGHBOUR: 'it returns false'. Refute it at one input. -/
def orderComparesWrong : ChangeSpec := { name := "orderCompares", fn := fun _ => fun
  | [d1, d2] => { results := [.lit (.bool false)], args := [d1, d2] }
  | _ => none }
def OrderComparesWrongFalsely : Prop := orderComparesRow.holds Try.pinned (OpenSpec.ofChange orderComparesWrong)

/-- 'gantletlaw16.OrderPlays': WHATEVER THE INPUT: true; the input reads as it did. -/
def orderPlaysSpec : ChangeSpec := { name := "orderPlays", fn := fun _ => fun
  | [d1, d2] => { results := [.lit (.bool true)], args := [d1, d2] }
  | _ => none }
def orderPlaysRow : OpenClaim := { program := "ytpiejdncoeldeaa", sum := "cd3bcb9b11d3e9537d526f5e99b1debb5009088e230eb0172229708dd38141ff", func := "gantlet/gantletlaw16.OrderPlays", spec := "orderPlays", apart := false }
def OrderPlaysSaid : Prop := orderPlaysRow.holds Try.pinned (OpenSpec.ofChange orderPlaysSpec)

/-- ITS FALSE NEIGHBOUR: 'it returns false'. Refute it at one input. -/
def orderPlaysWrong : ChangeSpec := { name := "orderPlays", fn := fun _ => fun
  | [d1, d2] => { results := [.lit (.bool false)], args := [d1, d2] }
  | _ => none }
def OrderPlaysWrongFalsely : Prop := orderPlaysRow.holds Try.pinned (OpenSpec.ofChange orderPlaysWrong)

/-- 'gantletlaw16.OrderStops': WHATEVER THE INPUT: true; the input reads as it did. -/
def orderStopsSpec : ChangeSpec := { name := "orderStops", fn := fun _ => fun
  | [d1, d2] => { results := [.lit (.bool true)], args := [d1, d2] }
  | _ => none }
def orderStopsRow : OpenClaim := { program := "ytpiejdncoeldeaa", sum := "cd3bcb9b11d3e9537d526f5e99b1debb5009088e230eb0172229708dd38141ff", func := "gantlet/gantletlaw16.OrderStops", spec := "orderStops", apart := false }
def OrderStopsSaid : Prop := orderStopsRow.holds Try.pinned (OpenSpec.ofChange orderStopsSpec)

/-- ITS FALSE NEIGHBOUR: 'it returns false'. Refute it at one input. -/
def orderStopsWrong : ChangeSpec := { name := "orderStops", fn := fun _ => fun
  | [d1, d2] => { results := [.lit (.bool false)], args := [d1, d2] }
  | _ => none }
def OrderStopsWrongFalsely : Prop := orderStopsRow.holds Try.pinned (OpenSpec.ofChange orderStopsWrong)

/-- 'gantletlaw16.OrderThird': WHATEVER THE INPUT: true; the input reads as it did. -/
def orderThirdSpec : ChangeSpec := { name := "orderThird", fn := fun _ => fun
  | [d1, d2, d3] => { results := [.lit (.bool true)], args := [d1, d2, d3] }
  | _ => none }
def orderThirdRow : OpenClaim := { program := "ytpiejdncoeldeaa", sum := "cd3bcb9b11d3e9537d526f5e99b1debb5009088e230eb0172229708dd38141ff", func := "gantlet/gantletlaw16.OrderThird", spec := "orderThird", apart := false }
def OrderThirdSaid : Prop := orderThirdRow.holds Try.pinned (OpenSpec.ofChange orderThirdSpec)

/-- ITS FALSE NEIGHBOUR: 'it returns false'. Refute it at one input. -/
def orderThirdWrong : ChangeSpec := { name := "orderThird", fn := fun _ => fun
  | [d1, d2, d3] => { results := [.lit (.bool false)], args := [d1, d2, d3] }
  | _ => none }
def OrderThirdWrongFalsely : Prop := orderThirdRow.holds Try.pinned (OpenSpec.ofChange orderThirdWrong)

/-- 'gantletlaw16.OrderSorts': WHATEVER THE INPUT: true; the input reads as it did. -/
def orderSortsSpec : ChangeSpec := { name := "orderSorts", fn := fun _ => fun
  | [d] => { results := [.lit (.bool true)], args := [d] }
  | _ => none }
def orderSortsRow : OpenClaim := { program := "ytpiejdncoeldeaa", sum := "cd3bcb9b11d3e9537d526f5e99b1debb5009088e230eb0172229708dd38141ff", func := "gantlet/gantletlaw16.OrderSorts", spec := "orderSorts", unfollowed := true, recurses := true, apart := false }
def OrderSortsSaid : Prop := orderSortsRow.holds Try.pinned (OpenSpec.ofChange orderSortsSpec)

/-- ITS FALSE NEIGHBOUR: 'it returns false'. Refute it at one input. -/
def orderSortsWrong : ChangeSpec := { name := "orderSorts", fn := fun _ => fun
  | [d] => { results := [.lit (.bool false)], args := [d] }
  | _ => none }
def OrderSortsWrongFalsely : Prop := orderSortsRow.holds Try.pinned (OpenSpec.ofChange orderSortsWrong)

/- THE SECOND FORM. 'bulk': how many values and letters a reading holds, each counted each time it is reached (what is shared counts as often as it is met; a slice's spare places count too). A statement '..UptoSaid' is the law's where the arguments, and the package variables that the reading takes, are together of bulk at most 1048576: NARROWER than '..Said'. Prove '..Said' where nothing that the law and all that it calls make is longer than what came in: it says more and counts as full. Else prove '..UptoSaid'. A law counts once. -/
mutual
def uptoBulk {H : Type} : DataW H → Nat
  | .lit (.string bytes) => bytes.length + 1
  | .lit _ => 1
  | .nil => 1
  | .ptr d => uptoBulk d + 1
  | .slice elems spare => uptoBulkAll elems + uptoBulkAll spare + 1
  | .agg parts => uptoBulkAll parts + 1
  | .iface _ d => uptoBulk d + 1
  | .map entries => uptoBulkEntries entries + 1
  | .held _ => 1
def uptoBulkAll {H : Type} : List (DataW H) → Nat
  | [] => 0
  | d :: r => uptoBulk d + uptoBulkAll r
def uptoBulkEntries {H : Type} : List (Lit × DataW H) → Nat
  | [] => 0
  | x :: r => uptoBulkEntry x + uptoBulkEntries r
def uptoBulkEntry {H : Type} : Lit × DataW H → Nat
  | (.string bytes, d) => bytes.length + uptoBulk d + 1
  | (_, d) => uptoBulk d + 1
 end
def uptoSmall : (H : Type) → List (DataW H) → Bool := fun _ ds => decide (uptoBulkAll ds ≤ 1048576)
def OpenSpec.upto (s : _root_.Go.ChangeSpec) : _root_.Go.OpenSpec := { _root_.Go.OpenSpec.ofChange s with cond := some uptoSmall }

/-- 'gantletlaw16.OrderCompares', WHERE WHAT IT READS IS OF BULK AT MOST 1048576: true; the input reads as it did. -/
def orderComparesUptoRow : OpenClaim := { program := "ytpiejdncoeldeaa", sum := "cd3bcb9b11d3e9537d526f5e99b1debb5009088e230eb0172229708dd38141ff", func := "gantlet/gantletlaw16.OrderCompares", spec := "orderCompares", apart := false, narrowed := true }
def OrderComparesUptoSaid : Prop := orderComparesUptoRow.holds Try.pinned (OpenSpec.upto orderComparesSpec)

/-- 'gantletlaw16.OrderPlays', WHERE WHAT IT READS IS OF BULK AT MOST 1048576: true; the input reads as it did. -/
def orderPlaysUptoRow : OpenClaim := { program := "ytpiejdncoeldeaa", sum := "cd3bcb9b11d3e9537d526f5e99b1debb5009088e230eb0172229708dd38141ff", func := "gantlet/gantletlaw16.OrderPlays", spec := "orderPlays", apart := false, narrowed := true }
def OrderPlaysUptoSaid : Prop := orderPlaysUptoRow.holds Try.pinned (OpenSpec.upto orderPlaysSpec)

/-- 'gantletlaw16.OrderStops', WHERE WHAT IT READS IS OF BULK AT MOST 1048576: true; the input reads as it did. -/
def orderStopsUptoRow : OpenClaim := { program := "ytpiejdncoeldeaa", sum := "cd3bcb9b11d3e9537d526f5e99b1debb5009088e230eb0172229708dd38141ff", func := "gantlet/gantletlaw16.OrderStops", spec := "orderStops", apart := false, narrowed := true }
def OrderStopsUptoSaid : Prop := orderStopsUptoRow.holds Try.pinned (OpenSpec.upto orderStopsSpec)

/-- 'gantletlaw16.OrderThird', WHERE WHAT IT READS IS OF BULK AT MOST 1048576: true; the input reads as it did. -/
def orderThirdUptoRow : OpenClaim := { program := "ytpiejdncoeldeaa", sum := "cd3bcb9b11d3e9537d526f5e99b1debb5009088e230eb0172229708dd38141ff", func := "gantlet/gantletlaw16.OrderThird", spec := "orderThird", apart := false, narrowed := true }
def OrderThirdUptoSaid : Prop := orderThirdUptoRow.holds Try.pinned (OpenSpec.upto orderThirdSpec)

/-- 'gantletlaw16.OrderSorts', WHERE WHAT IT READS IS OF BULK AT MOST 1048576: true; the input reads as it did. -/
def orderSortsUptoRow : OpenClaim := { program := "ytpiejdncoeldeaa", sum := "cd3bcb9b11d3e9537d526f5e99b1debb5009088e230eb0172229708dd38141ff", func := "gantlet/gantletlaw16.OrderSorts", spec := "orderSorts", unfollowed := true, recurses := true, apart := false, narrowed := true }
def OrderSortsUptoSaid : Prop := orderSortsUptoRow.holds Try.pinned (OpenSpec.upto orderSortsSpec)

end Rows
end Go.Proofs.Ytpiejdncoeldeaa
