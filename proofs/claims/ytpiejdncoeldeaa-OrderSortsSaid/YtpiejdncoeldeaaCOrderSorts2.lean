/- What the row of OrderSorts stands on, made small by a program of this session (pack.py). -/
import Derived.ArgAppend
import Derived.Below
import Derived.BigQuiet
import Derived.Deep.AppendLies
import Derived.Deep.CutBlock
import Derived.Deep.DeepCutAuto
import Derived.Deep.Draws
import Derived.Deep.LoopGhost
import Derived.Deep.OwnRows
import Derived.Deep.QuietTactic
import Derived.Deep.RegionHeld3
import Derived.KernelRfl
import Derived.Laws.BitsLemmas
import Derived.Laws.BytesArg
import Derived.Laws.IdiomCopy
import Derived.Laws.MakeOwn
import Derived.Laws.OwnMore
import Derived.Laws.Rows
import Derived.Laws.Slices
import Derived.Lib.AppendStr
import Derived.Lib.ConvBytes
import Derived.Maps.AppendAt
import Derived.OrdersHeld
import Derived.OwnWalk
import Derived.RowKit
import Derived.RowKit3
import Derived.Tactics
import Derived.Test.YtpiejdncoeldeaaProg
import Derived.WalkKit
import Derived.WideLaws
import Derived.Test.YtpiejdncoeldeaaCOrderSorts0
namespace Go.Proofs.Ytpiejdncoeldeaa.PA
open Go.RowKit Go.Proofs.YtpiejdncoeldeaaW.PrintWords Go.Proofs.YtpiejdncoeldeaaW.PrintLast Go.Proofs.YtpiejdncoeldeaaW.PrintMore
attribute [local go_sem] max2_int min2_int max_two min_two max_three min_three max_four min_four
set_option linter.unusedVariables false
set_option linter.unusedSimpArgs false
def errW : Option Int → Value
  | none => .nilIface
  | some c => .iface 0 (.int .i64 c)
theorem errW_none : errW none = .nilIface := rfl
theorem errW_some (c : Int) : errW (some c) = .iface 0 (.int .i64 c) := rfl
theorem bytesLess_turn : ∀ (x y : List UInt8), (Op.bytesLess x y || x == y) = !Op.bytesLess y x
  | [], [] => rfl
  | [], _ :: _ => rfl
  | _ :: _, [] => rfl
  | a :: x, b :: y => by
    have ih := bytesLess_turn x y
    simp only [Op.bytesLess, List.cons_beq_cons]
    rcases Nat.lt_trichotomy a.toNat b.toNat with h | h | h
    · have h1 : a < b := UInt8.lt_iff_toNat_lt.2 h
      have h2 : ¬ b < a := fun hc => by have := UInt8.lt_iff_toNat_lt.1 hc; omega
      have h3 : ¬ b = a := fun hc => by subst hc; omega
      have h4 : ¬ a = b := fun hc => by subst hc; omega
      simp [h1, h2, h3, h4]
    · obtain rfl := UInt8.toNat_inj.1 h
      simp [ih]
    · have h1 : ¬ a < b := fun hc => by have := UInt8.lt_iff_toNat_lt.1 hc; omega
      have h2 : b < a := UInt8.lt_iff_toNat_lt.2 h
      have h4 : ¬ a = b := fun hc => by subst hc; omega
      simp [h1, h2, h4]
@[go_sem] theorem bin_leq (t : TypeId) (a b : ByteArray) : binOp .leq t (.string a) (.string b) = pure (.bool (!Op.bytesLess b.toList a.toList)) := by rw [← bytesLess_turn]; simp [binOp, Op.stringOp]
@[go_sem] theorem bin_gtr (t : TypeId) (a b : ByteArray) : binOp .gtr t (.string a) (.string b) = pure (.bool (Op.bytesLess b.toList a.toList)) := by rw [← Bool.not_not (Op.bytesLess b.toList a.toList), ← bytesLess_turn]; simp [binOp, Op.stringOp]
@[go_sem] theorem bin_geq (t : TypeId) (a b : ByteArray) : binOp .geq t (.string a) (.string b) = pure (.bool (!Op.bytesLess a.toList b.toList)) := by simp [binOp, Op.stringOp]
end Go.Proofs.Ytpiejdncoeldeaa.PA
