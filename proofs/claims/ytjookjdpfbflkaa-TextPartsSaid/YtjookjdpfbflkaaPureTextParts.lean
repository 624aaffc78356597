/- The plain law of TextParts: two contents that are right are so one behind the other. -/
import Derived.Test.YtjookjdpfbflkaaRTxt
import Derived.Test.YtjookjdpfbflkaaPAx6
namespace Go.Proofs.Ytjookjdpfbflkaa.Pure
open Go.RowKit Go.Proofs.Ytjookjdpfbflkaa.PA Go.Proofs.YtjookjdpfbflkaaW.PrintWords Go.Proofs.YtjookjdpfbflkaaW.PrintLast Go.Proofs.YtjookjdpfbflkaaW.PrintMore
open Go.Proofs.Ytjookjdpfbflkaa.Bs Go.Proofs.Ytjookjdpfbflkaa.BTxt Go.Proofs.Ytjookjdpfbflkaa.RTxt
open Go.Proofs.Ytjookjdpfbflkaa.Tx (run st0 can)
set_option linter.unusedVariables false

theorem check_parts (tag : Int) (a b : List Int) : (Tx.check tag a = true → Tx.check tag (a ++ b) = Tx.check tag b) ∧ (tag ≠ 12 → Tx.check tag (a ++ b) = (Tx.check tag a && Tx.check tag b)) := by
  unfold Tx.check
  by_cases h : tag = 12
  · rw [if_pos h, if_pos h, if_pos h]
    exact ⟨fun hv => Tx.valid_append a.length a b (Nat.le_refl _) hv, fun hn => absurd h hn⟩
  · rw [if_neg h, if_neg h, if_neg h, List.all_append]
    exact ⟨fun hv => by rw [hv]; rfl, fun _ => rfl⟩
theorem TextParts (tag : Int) (a b : ByteArray) (ht : (Lit.int .i64 tag).wf = true) (_ : a.size ≤ 140737488351232) (_ : b.size ≤ 140737488351232) : ∃ k, gantletlaw14_TextParts.f k tag a b = some true := by
  refine ⟨3000, ?_⟩
  have aw : gantletlaw14_TextParts.j0 3000 tag a b true = some true := by
    rw [gantletlaw14_TextParts.j0, if_pos rfl, awake_ok 2999 (by decide)]; rfl
  unfold gantletlaw14_TextParts.f
  rw [awake_ok 3000 (by decide)]
  simp only [Option.bind_some, if_true]
  by_cases h : (a.size : Int) > 300
  · rw [if_pos h, aw]
  rw [if_neg h]
  by_cases h2 : (b.size : Int) > 300
  · rw [show decide ((b.size : Int) > 300) = true by simpa using h2, aw]
  have hz : (a ++ b).size = a.size + b.size := ByteArray.size_append
  obtain ⟨p1, p2⟩ := check_parts tag (bytesOf a) (bytesOf b)
  rw [show decide ((b.size : Int) > 300) = false by simpa using h2, gantletlaw14_TextParts.j0, if_neg (by decide), check_eq tag a (by omega) 2999 (by omega), check_eq tag b (by omega) 2999 (by omega)]
  simp only [Option.bind_some]
  rw [if_pos (by omega), check_eq tag (a ++ b) (by omega) 2999 (by omega), bytesOf_append]
  simp only [Option.bind_some]
  cases hx : Tx.check tag (bytesOf a) with
  | true =>
    rw [p1 hx]
    cases hy : Tx.check tag (bytesOf b) <;> simp
  | false =>
    by_cases h12 : tag = 12
    · cases hz' : Tx.check tag (bytesOf a ++ bytesOf b) <;> simp [h12]
    · rw [p2 h12, hx]; simp
end Go.Proofs.Ytjookjdpfbflkaa.Pure
