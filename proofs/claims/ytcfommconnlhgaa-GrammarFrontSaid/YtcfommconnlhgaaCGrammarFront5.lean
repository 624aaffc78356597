/- What the row of GrammarFront stands on, made small by a program of this session (pack.py). -/
import Derived.Test.YtcfommconnlhgaaCGrammarFront3
import Derived.Test.YtcfommconnlhgaaCGrammarFront4
namespace Go.Proofs.Ytcfommconnlhgaa.PC
open RowKit YtcfommconnlhgaaW.PrintWords YtcfommconnlhgaaW.PrintLast YtcfommconnlhgaaW.PrintMore Own Sl
theorem convP {w0 w : World} {S : Nat → Prop} {l : List Ast} {A : Option Addr} {n c : Nat} {xs : List Int} (h : Sp w0 S l w) (i : Nat) (hi : l[i]? = some (row (Kd.int .u8) 5 (.slice A n c) xs)) (hn : xs.length = n) : (convert 124 9 (.slice A n c)).run Try.prog w = .ok (.string (strOfNums xs)) w := by
 subst hn
 exact own_string (P := Try.prog) Try.underlying124 Try.underlying5 Try.underlying9 (Kd.own_of_R (h.row i hi))
theorem dr {w w' : World} (h : Drawn0 w w') : Upd None0 w w' := by obtain ⟨m, rfl⟩ := h; exact (Upd.refl _ _).drewN m
end Go.Proofs.Ytcfommconnlhgaa.PC
