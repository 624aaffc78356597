/- The plain law of HeadOne: bytes that are got are put as they were; a beginning is cut off. -/
import Derived.Test.YthmgabfhibkaiaaBHd
import Derived.Lib.Bytes
import Derived.Test.YthmgabfhibkaiaaPAx16
namespace Go.Proofs.Ythmgabfhibkaiaa.Pure
open Go.RowKit Go.Proofs.Ythmgabfhibkaiaa.PA Go.Proofs.YthmgabfhibkaiaaW.PrintWords Go.Proofs.YthmgabfhibkaiaaW.PrintLast Go.Proofs.YthmgabfhibkaiaaW.PrintMore
open Go.Proofs.Ythmgabfhibkaiaa.Idm Go.Proofs.Ythmgabfhibkaiaa.Lenm Go.Proofs.Ythmgabfhibkaiaa.Hdm Go.Proofs.Ythmgabfhibkaiaa.BId Go.Proofs.Ythmgabfhibkaiaa.BLen Go.Proofs.Ythmgabfhibkaiaa.BHd
set_option linter.unusedVariables false

theorem bytesOf_front (s : ByteArray) (n : Nat) : bytesOf (s.extract 0 n) = (bytesOf s).take n := by
  simp [bytesOf, ByteArray.data_extract, List.map_take]
theorem HeadOne (s : ByteArray) (cut : Int) (hs : s.size ≤ 140737488351232) (_ : (Lit.int .i64 cut).wf = true) : ∃ k, gantletlaw07_HeadOne.f k s cut = some true := by
  refine ⟨1002, ?_⟩
  unfold gantletlaw07_HeadOne.f gantletlaw07_awake.f
  simp only [Option.bind_some, if_true]
  by_cases h : (s.size : Int) > 300
  · rw [show decide ((s.size : Int) > 300) = true by simpa using h]
    simp only [gantletlaw07_HeadOne.j0, if_true]
    rfl
  · rw [show decide ((s.size : Int) > 300) = false by simpa using h]
    simp only [gantletlaw07_HeadOne.j0, Bool.false_eq_true, if_false]
    obtain ⟨⟨c, t, cons, n, p, e⟩, hr⟩ : ∃ r, hg (bytesOf s) = r := ⟨_, rfl⟩
    have he := hg_err (bytesOf s)
    rw [hr] at he
    rw [hget_ok s (by omega) 0 (by decide) (by omega) 1001 (by omega), show (bytesOf s).drop (0 : Int).toNat = bytesOf s from rfl, hr, show gotH 0 (c, t, cons, n, p, e) = (c, t, cons, n, 0 + (p : Int), e) from rfl]
    simp only [Option.bind_some]
    by_cases h0 : e = 0
    · subst h0
      obtain ⟨hv, g1, g2, g3⟩ := hg_back (bytesOf s) c t cons n p (bytes_of s) hr
      rw [bytesOf_length] at g2
      rw [if_pos rfl, hput_ok 1001 _ hv (by decide)]
      have hx : strOfNums (hdenc c t cons n) = s.extract 0 (0 + (p : Int)).toNat := by
        refine bytesOf_inj ?_
        rw [bytesOf_nums _ (hdenc_bytes hv), bytesOf_front, g3]
        congr 1; omega
      simp only [Option.bind_some, if_true]
      rw [if_neg (by omega), if_neg (by omega), if_pos (by omega), if_pos (by omega), hx]
      simp only [bne_self_eq_false, gantletlaw07_HeadOne.j1, Bool.false_eq_true, if_false]
      by_cases h1 : cut < 0
      · rw [if_pos h1]
      rw [if_neg h1]
      by_cases h2 : cut ≥ 0 + (p : Int)
      · rw [if_pos h2]
      · have hz : (s.extract 0 cut.toNat).size = cut.toNat := by rw [ByteArray.size_extract]; omega
        rw [if_neg h2, if_pos (by omega), if_pos (by omega), hget_ok _ (by omega) 0 (by decide) (by omega) 1000 (by omega), show (bytesOf (s.extract 0 cut.toNat)).drop (0 : Int).toNat = bytesOf (s.extract 0 cut.toNat) from rfl]
        have hc : bytesOf (s.extract 0 cut.toNat) = (hdenc c t cons n).take cut.toNat := by
          rw [bytesOf_front, g3, List.take_take, show min cut.toNat p = cut.toNat by omega]
        have hpl : (hdenc c t cons n).length = p := by rw [g3, List.length_take, bytesOf_length]; omega
        rw [hc, hg_cut cons hv _ (by omega), show gotH 0 (0, 0, false, 0, cut.toNat, 2) = (0, 0, false, 0, 0 + (cut.toNat : Int), 2) from rfl]
        simp only [Option.bind_some]
        rw [if_pos (by omega)]; rfl
    · rw [if_neg h0]
      obtain ⟨q1, q2, q3, q4, q5⟩ := he h0
      simp only at q1 q2 q3 q4 q5
      subst q1 q2 q3 q4
      rw [bytesOf_length] at q5
      rw [if_pos (by decide), if_pos (by omega)]
      simp; omega
end Go.Proofs.Ythmgabfhibkaiaa.Pure
