/- The plain law of IdentCut: a beginning is cut off, at its end; what stands behind plays no part. -/
import Derived.Test.YtiohngikhchgeaaAId
import Derived.Test.YtiohngikhchgeaaPAx7
namespace Go.Proofs.Ytiohngikhchgeaa.Pure
open Go.RowKit Go.Proofs.Ytiohngikhchgeaa.PA Go.Proofs.YtiohngikhchgeaaW.PrintWords Go.Proofs.YtiohngikhchgeaaW.PrintLast Go.Proofs.YtiohngikhchgeaaW.PrintMore
open Go.Proofs.Ytiohngikhchgeaa.Idm Go.Proofs.Ytiohngikhchgeaa.BId Go.Proofs.Ytiohngikhchgeaa.AId

theorem bytesOf_front (s : ByteArray) (n : Nat) : bytesOf (s.extract 0 n) = (bytesOf s).take n := by
  simp [bytesOf, ByteArray.data_extract, List.map_take]
theorem cut_awake (n : Int) (m b : ByteArray) : gantletlaw05_IdentCut.j0 1000 n m b true = some true := by
  simp only [gantletlaw05_IdentCut.j0, if_true]
  rw [awake_ok 999 (by decide)]; rfl
theorem IdentCut (c t : Int) (cons : Bool) (l n : Int) (m : ByteArray) (_ : (Lit.int .i64 c).wf = true) (_ : (Lit.int .i64 t).wf = true) (_ : (Lit.int .i64 l).wf = true) (_ : (Lit.int .i64 n).wf = true) (hm : m.size ≤ 140737488351232) :
    ∃ k, gantletlaw05_IdentCut.f k c t cons l n m = some true := by
  refine ⟨1000, ?_⟩
  unfold gantletlaw05_IdentCut.f
  rw [awake_ok 1000 (by decide)]
  simp only [Option.bind_some, if_true]
  by_cases hv : Valid c t
  · have hl := enc_len c t cons
    have hz : (strOfNums (enc c t cons)).size = (enc c t cons).length := strOfNums_size _
    rw [put_ok 992 cons l hv]
    simp only [Option.bind_some, if_true]
    by_cases h1 : n < 0
    · rw [if_pos h1, cut_awake]
    by_cases h2 : n ≥ ((strOfNums (enc c t cons)).size : Int)
    · rw [if_neg h1, if_pos h2, cut_awake]
    rw [if_neg h1, if_neg h2]
    by_cases h3 : (m.size : Int) > 100
    · rw [show decide ((m.size : Int) > 100) = true by simpa using h3, cut_awake]
    · rw [show decide ((m.size : Int) > 100) = false by simpa using h3]
      simp only [gantletlaw05_IdentCut.j0, Bool.false_eq_true, if_false]
      have z1 : ((strOfNums (enc c t cons)).extract 0 n.toNat).size ≤ 5 := by
        rw [ByteArray.size_extract]; omega
      have z2 : (strOfNums (enc c t cons) ++ m).size = (enc c t cons).length + m.size := by rw [ByteArray.size_append, hz]
      rw [if_pos (by omega), if_pos (by omega), get_ok _ (by omega) 0 (by decide) (by omega) 999 (by omega), get_ok _ (by omega) 0 (by decide) (by omega) 999 (by omega)]
      simp only [Option.bind_some]
      rw [if_pos (by omega), get_ok _ (by omega) 0 (by decide) (by omega) 999 (by omega)]
      simp only [Option.bind_some, gotten, Int.toNat_zero, List.drop_zero]
      rw [bytesOf_front, bytesOf_append, bytesOf_nums _ (enc_bytes hv), idg_cut cons hv _ (by omega), idg_enc cons hv]
      have e := idg_enc cons hv []
      rw [List.append_nil] at e
      rw [e]
      simp only
      rw [if_pos (by omega)]
      simp
  · rw [put_bad 999 cons l hv]
    simp only [Option.bind_some]
    rw [if_neg (by decide), cut_awake]
end Go.Proofs.Ytiohngikhchgeaa.Pure
