/- The plain law of HeadBack: what is put is got as it was, whatever stands ahead and behind. -/
import Derived.Test.YthmgabfhibkaiaaBHd
import Derived.Lib.Bytes
import Derived.Test.YthmgabfhibkaiaaPAx15
namespace Go.Proofs.Ythmgabfhibkaiaa.Pure
open Go.RowKit Go.Proofs.Ythmgabfhibkaiaa.PA Go.Proofs.YthmgabfhibkaiaaW.PrintWords Go.Proofs.YthmgabfhibkaiaaW.PrintLast Go.Proofs.YthmgabfhibkaiaaW.PrintMore
open Go.Proofs.Ythmgabfhibkaiaa.Idm Go.Proofs.Ythmgabfhibkaiaa.Lenm Go.Proofs.Ythmgabfhibkaiaa.Hdm Go.Proofs.Ythmgabfhibkaiaa.BId Go.Proofs.Ythmgabfhibkaiaa.BLen Go.Proofs.Ythmgabfhibkaiaa.BHd
set_option linter.unusedVariables false

theorem HeadBack (c t : Int) (cons : Bool) (n : Int) (m : ByteArray) (_ : (Lit.int .i64 c).wf = true) (_ : (Lit.int .i64 t).wf = true) (_ : (Lit.int .i64 n).wf = true) (hm : m.size ≤ 140737488351232) :
    ∃ k, gantletlaw07_HeadBack.f k c t cons n m = some true := by
  refine ⟨1001, ?_⟩
  unfold gantletlaw07_HeadBack.f gantletlaw07_awake.f
  simp only [Option.bind_some, if_true]
  by_cases h : (m.size : Int) > 100
  · rw [show decide ((m.size : Int) > 100) = true by simpa using h]
    simp only [gantletlaw07_HeadBack.j0, if_true]
    rfl
  · rw [show decide ((m.size : Int) > 100) = false by simpa using h]
    simp only [gantletlaw07_HeadBack.j0, Bool.false_eq_true, if_false]
    by_cases hv : Whole c t n
    · have hl := hdenc_len cons hv
      have hz : (strOfNums (hdenc c t cons n)).size = (hdenc c t cons n).length := strOfNums_size _
      have h1 : (m ++ strOfNums (hdenc c t cons n)).size = m.size + (hdenc c t cons n).length := by rw [ByteArray.size_append, hz]
      have h2 : ((m ++ strOfNums (hdenc c t cons n)) ++ m).size = m.size + (hdenc c t cons n).length + m.size := by rw [ByteArray.size_append, h1]
      rw [hput_ok 1000 cons hv (by decide)]
      simp only [Option.bind_some, if_true]
      rw [if_pos (by omega), if_pos (by omega), hget_ok _ (by omega) (m.size : Int) (by omega) (by omega) 1000 (by omega)]
      have hd : (bytesOf ((m ++ strOfNums (hdenc c t cons n)) ++ m)).drop (m.size : Int).toNat = hdenc c t cons n ++ bytesOf m := by
        rw [bytesOf_append, bytesOf_append, bytesOf_nums _ (hdenc_bytes hv), Int.toNat_natCast, List.append_assoc, List.drop_append_of_le_length (by rw [bytesOf_length]; exact Nat.le_refl _), List.drop_of_length_le (by rw [bytesOf_length]; exact Nat.le_refl _), List.nil_append]
      rw [hd, hg_enc cons hv]
      simp only [gotH, Option.bind_some]
      rw [if_pos (by simp), if_pos (by rw [hz, w64 (by omega) (by omega)]), if_pos trivial]
      simp; omega
    · rw [hput_bad 1000 cons hv (by decide)]
      simp only [Option.bind_some]
      rw [if_neg (by decide), Lib.toList_data]; rfl
end Go.Proofs.Ythmgabfhibkaiaa.Pure
