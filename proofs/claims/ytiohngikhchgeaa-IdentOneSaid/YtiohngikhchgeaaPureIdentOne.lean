/- The plain law of IdentOne: bytes that are got are put as they were. -/
import Derived.Test.YtiohngikhchgeaaAId
import Derived.Lib.Bytes
import Derived.Test.YtiohngikhchgeaaPAx7
namespace Go.Proofs.Ytiohngikhchgeaa.Pure
open Go.RowKit Go.Proofs.Ytiohngikhchgeaa.PA Go.Proofs.YtiohngikhchgeaaW.PrintWords Go.Proofs.YtiohngikhchgeaaW.PrintLast Go.Proofs.YtiohngikhchgeaaW.PrintMore
open Go.Proofs.Ytiohngikhchgeaa.Idm Go.Proofs.Ytiohngikhchgeaa.BId Go.Proofs.Ytiohngikhchgeaa.AId

theorem bytesOf_front (s : ByteArray) (n : Nat) : bytesOf (s.extract 0 n) = (bytesOf s).take n := by
  simp [bytesOf, ByteArray.data_extract, List.map_take]
theorem IdentOne (s : ByteArray) (hs : s.size ≤ 140737488351232) : ∃ k, gantletlaw05_IdentOne.f k s = some true := by
  refine ⟨1000, ?_⟩
  unfold gantletlaw05_IdentOne.f
  rw [awake_ok 1000 (by decide)]
  simp only [Option.bind_some, if_true]
  by_cases h : (s.size : Int) > 200
  · rw [show decide ((s.size : Int) > 200) = true by simpa using h]
    simp only [gantletlaw05_IdentOne.j0, if_true]
    rw [awake_ok 999 (by decide)]; rfl
  · rw [show decide ((s.size : Int) > 200) = false by simpa using h]
    simp only [gantletlaw05_IdentOne.j0, Bool.false_eq_true, if_false]
    rw [get_ok s (by omega) 0 (by decide) (by omega) 999 (by omega)]
    simp only [Option.bind_some, gotten, Int.toNat_zero, List.drop_zero]
    have he := idg_err (bytesOf s)
    by_cases h0 : (idg (bytesOf s)).2.2.2.2 = 0
    · rw [if_pos h0]
      obtain ⟨hv, g1, g2, g3⟩ := idg_back (bytesOf s) (idg (bytesOf s)).1 (idg (bytesOf s)).2.1 (idg (bytesOf s)).2.2.1 (idg (bytesOf s)).2.2.2.1 (bytes_of s) (by rw [← h0])
      rw [put_ok 991 _ _ hv]
      rw [bytesOf_length] at g2
      simp only [Option.bind_some, if_true]
      rw [if_pos (by omega), if_pos (by omega), if_pos (by omega)]
      have : (strOfNums (enc (idg (bytesOf s)).1 (idg (bytesOf s)).2.1 (idg (bytesOf s)).2.2.1)) = s.extract 0 (0 + ((idg (bytesOf s)).2.2.2.1 : Int)).toNat := by
        refine bytesOf_inj ?_
        rw [bytesOf_nums _ (enc_bytes hv), bytesOf_front, g3]
        congr 1; omega
      rw [this]; simp
    · rw [if_neg h0]
      obtain ⟨q1, q2, q3⟩ := he.2.2.2.2 h0
      rw [q1, q2, q3]; rfl
end Go.Proofs.Ytiohngikhchgeaa.Pure
