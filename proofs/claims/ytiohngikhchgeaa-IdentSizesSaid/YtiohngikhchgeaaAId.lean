/- The answers that the document fixes are given (layer 5). -/
import Derived.Test.YtiohngikhchgeaaBId
import Derived.Lib.Bytes
import Derived.Test.YtiohngikhchgeaaPAx5
namespace Go.Proofs.Ytiohngikhchgeaa.AId
open Go.RowKit Go.Proofs.Ytiohngikhchgeaa.PA Go.Proofs.YtiohngikhchgeaaW.PrintWords Go.Proofs.YtiohngikhchgeaaW.PrintLast Go.Proofs.YtiohngikhchgeaaW.PrintMore
open Go.Proofs.Ytiohngikhchgeaa.Idm Go.Proofs.Ytiohngikhchgeaa.BId

theorem awake_ok (k : Nat) (hk : 20 ≤ k) : gantletlaw05_awake.f k = some true := by
  obtain ⟨m, rfl⟩ : ∃ m, k = m + 8 := ⟨k - 8, by omega⟩
  have v1 : Valid 0 16 := by unfold Valid; omega
  have v2 : Valid 2 31 := by unfold Valid; omega
  have g1 := get_ok (⟨#[120, 159, 31]⟩ : ByteArray) (by decide) 1 (by decide) (by decide) (m + 8) (by show 2 * 3 + 3 ≤ m + 8; omega)
  have g2 := get_ok (⟨#[31, 30]⟩ : ByteArray) (by decide) 0 (by decide) (by decide) (m + 8) (by show 2 * 2 + 3 ≤ m + 8; omega)
  have g3 := get_ok (⟨#[31, 128]⟩ : ByteArray) (by decide) 0 (by decide) (by decide) (m + 8) (by show 2 * 2 + 3 ≤ m + 8; omega)
  rw [show gotten 1 (idg ((bytesOf (⟨#[120, 159, 31]⟩ : ByteArray)).drop (1 : Int).toNat)) = (2, 31, false, 0, 3, 0) by decide] at g1
  rw [show gotten 0 (idg ((bytesOf (⟨#[31, 30]⟩ : ByteArray)).drop (0 : Int).toNat)) = (0, 0, false, 0, 1, 3) by decide] at g2
  rw [show gotten 0 (idg ((bytesOf (⟨#[31, 128]⟩ : ByteArray)).drop (0 : Int).toNat)) = (0, 0, false, 0, 1, 3) by decide] at g3
  unfold gantletlaw05_awake.f
  rw [put_ok m true 0 v1, put_ok m false 0 v2, g1, g2, g3]
  simp only [Option.bind_some]
  rw [Lib.strOfNums_toList, Lib.strOfNums_toList]
  decide
end Go.Proofs.Ytiohngikhchgeaa.AId
