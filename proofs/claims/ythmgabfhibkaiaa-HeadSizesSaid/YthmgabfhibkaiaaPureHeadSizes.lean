/- The plain law of HeadSizes: how many bytes a head has, and what another length changes. -/
import Derived.Test.YthmgabfhibkaiaaBHd
import Derived.Lib.Bytes
import Derived.Test.YthmgabfhibkaiaaPAx17
namespace Go.Proofs.Ythmgabfhibkaiaa.Pure
open Go.RowKit Go.Proofs.Ythmgabfhibkaiaa.PA Go.Proofs.YthmgabfhibkaiaaW.PrintWords Go.Proofs.YthmgabfhibkaiaaW.PrintLast Go.Proofs.YthmgabfhibkaiaaW.PrintMore
open Go.Proofs.Ythmgabfhibkaiaa.Idm Go.Proofs.Ythmgabfhibkaiaa.Lenm Go.Proofs.Ythmgabfhibkaiaa.Hdm Go.Proofs.Ythmgabfhibkaiaa.BId Go.Proofs.Ythmgabfhibkaiaa.BLen Go.Proofs.Ythmgabfhibkaiaa.BHd
set_option linter.unusedVariables false

theorem bytesOf_front (s : ByteArray) (n : Nat) : bytesOf (s.extract 0 n) = (bytesOf s).take n := by
  simp [bytesOf, ByteArray.data_extract, List.map_take]
theorem front_same {c t n m : Int} (cons : Bool) (h : Whole c t n) (h2 : Whole c t m) (p : Nat) (hp : p = (enc c t cons).length) : (strOfNums (hdenc c t cons n)).extract 0 p = (strOfNums (hdenc c t cons m)).extract 0 p := by
  refine bytesOf_inj ?_
  rw [bytesOf_front, bytesOf_front, bytesOf_nums _ (hdenc_bytes h), bytesOf_nums _ (hdenc_bytes h2), hp, hdenc_front, hdenc_front]
theorem HeadSizes (c t : Int) (cons : Bool) (l n : Int) (_ : (Lit.int .i64 c).wf = true) (_ : (Lit.int .i64 t).wf = true) (_ : (Lit.int .i64 l).wf = true) (_ : (Lit.int .i64 n).wf = true) :
    ∃ k, gantletlaw07_HeadSizes.f k c t cons l n = some true := by
  refine ⟨101, ?_⟩
  have bad : ∀ b d, gantletlaw07_HeadSizes.j0 101 b d true c t cons n = some true := by
    intro b d
    simp only [gantletlaw07_HeadSizes.j0, if_true]
    rfl
  unfold gantletlaw07_HeadSizes.f gantletlaw07_awake.f
  by_cases hl : Whole c t l
  · by_cases hn : Whole c t n
    · have h0 : Whole c t 0 := ⟨hl.1, by omega, by unfold MaxLen; omega⟩
      have l1 := hdenc_len cons hl
      have l2 := hdenc_len cons hn
      have l3 := hdenc_len cons h0
      have l4 := lenc_len l hl.2.1 hl.2.2
      have l5 := lenc_len n hn.2.1 hn.2.2
      have l6 : (lenc 0).length = 1 := rfl
      have l7 := enc_len c t cons
      rw [hput_ok 101 cons hl (by decide), hput_ok 101 cons hn (by decide)]
      simp only [Option.bind_some, if_true, bne_self_eq_false, gantletlaw07_HeadSizes.j0, Bool.false_eq_true, if_false]
      rw [hput_ok 100 cons h0 (by decide)]
      simp only [Option.bind_some]
      have z1 : (strOfNums (hdenc c t cons l)).size = (hdenc c t cons l).length := strOfNums_size _
      have z2 : (strOfNums (hdenc c t cons n)).size = (hdenc c t cons n).length := strOfNums_size _
      have z3 : (strOfNums (hdenc c t cons 0)).size = (hdenc c t cons 0).length := strOfNums_size _
      have hw : wrap64 (((strOfNums (hdenc c t cons 0)).size : Int) - 1) = ((enc c t cons).length : Int) := by rw [w64 (by omega) (by omega)]; omega
      simp only [hw, Int.toNat_natCast]
      rw [if_pos (by omega), if_pos (by omega), if_pos (by omega), if_pos (by omega), if_pos (by omega), if_pos (by omega), if_pos (by omega), if_pos (by omega),
        front_same cons hl h0 _ rfl, if_pos rfl, if_pos (by omega), front_same cons hn h0 _ rfl]
      simp
    · rw [hput_ok 101 cons hl (by decide), hput_bad 101 cons hn (by decide)]
      simp only [Option.bind_some, if_true]
      exact bad _ _
  · rw [hput_bad 101 cons hl (by decide)]
    by_cases hn : Whole c t n
    · rw [hput_ok 101 cons hn (by decide)]
      simp only [Option.bind_some, if_true]
      rw [if_neg (by decide)]
      exact bad _ _
    · rw [hput_bad 101 cons hn (by decide)]
      simp only [Option.bind_some, if_true]
      rw [if_neg (by decide)]
      exact bad _ _
end Go.Proofs.Ythmgabfhibkaiaa.Pure
