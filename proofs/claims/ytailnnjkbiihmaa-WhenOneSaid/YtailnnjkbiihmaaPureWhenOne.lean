/- The plain law of WhenOne: a content that is got is put as it was. -/
import Derived.Test.YtailnnjkbiihmaaHDat
import Derived.Test.YtailnnjkbiihmaaPAx8
namespace Go.Proofs.Ytailnnjkbiihmaa.Pure
open Go.RowKit Go.Proofs.Ytailnnjkbiihmaa.PA Go.Proofs.YtailnnjkbiihmaaW.PrintWords Go.Proofs.YtailnnjkbiihmaaW.PrintLast Go.Proofs.YtailnnjkbiihmaaW.PrintMore
open Go.Proofs.Ytailnnjkbiihmaa.Bs Go.Proofs.Ytailnnjkbiihmaa.BDat Go.Proofs.Ytailnnjkbiihmaa.Dt
set_option linter.unusedVariables false

theorem F_drop {p : List Int} (h : p ≠ []) : (F true p).drop 2 = p := by
  cases p with
  | nil => exact absurd rfl h
  | cons a r => simp only [F, if_true]; exact List.drop_left' (cen_len a)
theorem WhenOne (tag : Int) (s : ByteArray) (_ : (Lit.int .i64 tag).wf = true) (_ : s.size ≤ 140737488351232) : ∃ k, gantletlaw13_WhenOne.f k tag s = some true := by
  refine ⟨300, ?_⟩
  unfold gantletlaw13_WhenOne.f
  rw [awake_ok 300 (by decide)]
  simp only [Option.bind_some, if_true]
  rw [gantletlaw13_WhenOne.j0]
  by_cases h : decide ((s.size : Int) > 100) = true
  · rw [if_pos h, awake_ok 299 (by decide)]; rfl
  rw [if_neg h]
  rcases get_cases 299 (by decide) tag s with ⟨u, p, hc, e⟩ | ⟨_, e⟩
  · rw [e]
    simp only [Option.bind_some, if_true]
    obtain ⟨h1, h2, h3, h4⟩ := hc
    have hb : bytesOf (strOfNums (F u p)) = F u p := bytesOf_nums _ (digs_bytes (F_digs h2.1))
    have hl : (F u p).length = 14 := F_all h2 h4
    have hsz : (strOfNums (F u p)).size = 14 := by rw [nums_size _ (digs_bytes (F_digs h2.1)), hl]
    rcases put_cases 299 (by decide) (strOfNums (F u p)) with ⟨v, c, q, e2, hs, hc2, hF, hq, hv⟩ | ⟨e2, g1, g2⟩
    · rw [hb] at hF hv
      have huv : u = v ∧ p = q := by
        rcases hv with ⟨rfl, hA, hq2⟩ | ⟨rfl, hA, hq2⟩
        · cases u with
          | true =>
            refine ⟨rfl, ?_⟩
            rw [hq2, F_drop (by rintro rfl; simp [lenOf] at h4)]
          | false =>
            exfalso
            have hy := inA_year hA
            have ho := inA_okc hA
            have := (inB_iff hl ho.1 ho.2).1 (by exact h2)
            omega
        · cases u with
          | true =>
            exfalso
            refine hA ⟨hl, ?_, ?_⟩
            · rw [F_drop (by rintro rfl; simp [lenOf] at h4)]; exact h2
            · rw [F_drop (by rintro rfl; simp [lenOf] at h4)]
          | false => exact ⟨rfl, hq2.symm⟩
      obtain ⟨rfl, rfl⟩ := huv
      rw [e2]
      simp only [Option.bind_some, if_true]
      rw [if_pos h3.symm, if_pos ((toList_iff _ _).2 (by rw [hq, h1])), hsz]; rfl
    · exfalso
      rw [hb] at g1 g2
      cases u with
      | true =>
        refine g1 ⟨hl, ?_, ?_⟩
        · rw [F_drop (by rintro rfl; simp [lenOf] at h4)]; exact h2
        · rw [F_drop (by rintro rfl; simp [lenOf] at h4)]
      | false => exact g2 ⟨hl, h2⟩
  · rw [e]
    simp only [Option.bind_some]
    rw [if_neg (by decide)]
    decide +kernel
end Go.Proofs.Ytailnnjkbiihmaa.Pure
