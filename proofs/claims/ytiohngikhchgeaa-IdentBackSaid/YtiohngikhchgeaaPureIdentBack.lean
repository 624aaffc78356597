/- The plain law of IdentBack: what is put is got as it was, whatever stands ahead and behind. -/
import Derived.Test.YtiohngikhchgeaaAId
import Derived.Lib.Bytes
import Derived.Test.YtiohngikhchgeaaPAx7
namespace Go.Proofs.Ytiohngikhchgeaa.Pure
open Go.RowKit Go.Proofs.Ytiohngikhchgeaa.PA Go.Proofs.YtiohngikhchgeaaW.PrintWords Go.Proofs.YtiohngikhchgeaaW.PrintLast Go.Proofs.YtiohngikhchgeaaW.PrintMore
open Go.Proofs.Ytiohngikhchgeaa.Idm Go.Proofs.Ytiohngikhchgeaa.BId Go.Proofs.Ytiohngikhchgeaa.AId

theorem IdentBack (c t : Int) (cons : Bool) (l : Int) (m : ByteArray) (_ : (Lit.int .i64 c).wf = true) (_ : (Lit.int .i64 t).wf = true) (_ : (Lit.int .i64 l).wf = true) (hm : m.size ≤ 140737488351232) :
    ∃ k, gantletlaw05_IdentBack.f k c t cons l m = some true := by
  refine ⟨1000, ?_⟩
  unfold gantletlaw05_IdentBack.f
  rw [awake_ok 1000 (by decide)]
  simp only [Option.bind_some, if_true]
  by_cases h : (m.size : Int) > 100
  · rw [show decide ((m.size : Int) > 100) = true by simpa using h]
    simp only [gantletlaw05_IdentBack.j0, if_true]
    rw [awake_ok 999 (by decide)]; rfl
  · rw [show decide ((m.size : Int) > 100) = false by simpa using h]
    simp only [gantletlaw05_IdentBack.j0, Bool.false_eq_true, if_false]
    by_cases hv : Valid c t
    · have hl := enc_len c t cons
      have hz : (strOfNums (enc c t cons)).size = (enc c t cons).length := strOfNums_size _
      have h1 : (m ++ strOfNums (enc c t cons)).size = m.size + (enc c t cons).length := by rw [ByteArray.size_append, hz]
      have h2 : ((m ++ strOfNums (enc c t cons)) ++ m).size = m.size + (enc c t cons).length + m.size := by rw [ByteArray.size_append, h1]
      rw [put_ok 991 cons l hv]
      simp only [Option.bind_some, if_true]
      rw [if_pos (by omega), if_pos (by omega), get_ok _ (by omega) (m.size : Int) (by omega) (by omega) 999 (by omega)]
      have hd : (bytesOf ((m ++ strOfNums (enc c t cons)) ++ m)).drop (m.size : Int).toNat = enc c t cons ++ bytesOf m := by
        rw [bytesOf_append, bytesOf_append, bytesOf_nums _ (enc_bytes hv), Int.toNat_natCast, List.append_assoc, List.drop_append_of_le_length (by rw [bytesOf_length]; exact Nat.le_refl _), List.drop_of_length_le (by rw [bytesOf_length]; exact Nat.le_refl _), List.nil_append]
      rw [hd, idg_enc cons hv]
      simp only [gotten, Option.bind_some]
      rw [if_pos (by simp), if_pos (by rw [hz, w64 (by omega) (by omega)])]
      rfl
    · rw [put_bad 998 cons l hv]
      simp only [Option.bind_some]
      rw [if_neg (by decide), Lib.toList_data]; rfl
end Go.Proofs.Ytiohngikhchgeaa.Pure
