/- The plain law of NumberRise: the greater value's content is the greater text. -/
import Derived.Test.YtghkfoaiieajhaaRNum
import Derived.Test.YtghkfoaiieajhaaPAx8
namespace Go.Proofs.Ytghkfoaiieajhaa.Pure
open Go.RowKit Go.Proofs.Ytghkfoaiieajhaa.PA Go.Proofs.YtghkfoaiieajhaaW.PrintWords Go.Proofs.YtghkfoaiieajhaaW.PrintLast Go.Proofs.YtghkfoaiieajhaaW.PrintMore
open Go.Proofs.Ytghkfoaiieajhaa.Bs Go.Proofs.Ytghkfoaiieajhaa.BNum Go.Proofs.Ytghkfoaiieajhaa.RNum
open Go.Proofs.Ytghkfoaiieajhaa.Nm (pn Fits Le)

theorem le_less {x y : List Int} (h : Le x y) (hx : Nm.Bytes x) (hy : Nm.Bytes y) : Op.bytesLess (Lib.bytesOf y) (Lib.bytesOf x) = false := by
  induction h with
  | nil => rfl
  | same a h ih =>
    have := ih (fun b hb => hx b (by simp [hb])) (fun b hb => hy b (by simp [hb]))
    simp only [Lib.bytesOf, List.map_cons, Op.bytesLess] at this ⊢
    rw [this]; simp
  | @less a b x y h =>
    have ha := hx a (by simp)
    have hb := hy b (by simp)
    have e : ∀ c : Int, 0 ≤ c → c < 256 → (UInt8.ofNat c.toNat).toNat = c.toNat := by
      intro c h0 h1
      rw [UInt8.toNat_ofNat_of_lt']
      have : c.toNat < 256 := by omega
      simpa [UInt8.size] using this
    simp only [Lib.bytesOf, List.map_cons, Op.bytesLess]
    have h1 : ¬ (UInt8.ofNat b.toNat < UInt8.ofNat a.toNat) := by
      intro hc
      have := UInt8.lt_iff_toNat_lt.1 hc
      rw [e a ha.1 ha.2, e b hb.1 hb.2] at this; omega
    have h2 : ¬ (UInt8.ofNat b.toNat = UInt8.ofNat a.toNat) := by
      intro hc
      have := congrArg UInt8.toNat hc
      rw [e a ha.1 ha.2, e b hb.1 hb.2] at this; omega
    simp [h1, h2]
theorem NumberRise (n m : Int) (hn : (Lit.int .i64 n).wf = true) (hm : (Lit.int .i64 m).wf = true) : ∃ k, gantletlaw10_NumberRise.f k n m = some true := by
  refine ⟨3000, ?_⟩
  have wn := wf64 hn
  have wm := wf64 hm
  have aw : gantletlaw10_NumberRise.j0 3000 n m true = some true := by
    rw [gantletlaw10_NumberRise.j0, if_pos rfl, awake_ok 2999 (by decide)]; rfl
  unfold gantletlaw10_NumberRise.f
  rw [awake_ok 3000 (by decide)]
  simp only [Option.bind_some, if_true]
  by_cases h : n < 0
  · rw [if_pos h, aw]
  rw [if_neg h]
  by_cases h2 : m < n
  · rw [show decide (m < n) = true by simpa using h2, aw]
  rw [show decide (m < n) = false by simpa using h2]
  rw [gantletlaw10_NumberRise.j0, if_neg (by decide), put_ok 2991 n wn, put_ok 2991 m wm]
  simp only [Option.bind_some]
  obtain ⟨r1, r2⟩ := Nm.pn_rise 7 n m (by omega) (by omega) (fits64 wm)
  have hzn : (strOfNums (pn 7 n)).size = (pn 7 n).length := strOfNums_size _
  have hzm : (strOfNums (pn 7 m)).size = (pn 7 m).length := strOfNums_size _
  have fin : ((n == m) == ((strOfNums (pn 7 n)).toList == (strOfNums (pn 7 m)).toList)) = true := by
    rw [toList_beq, bytesOf_nums _ (Nm.pn_bytes _ _), bytesOf_nums _ (Nm.pn_bytes _ _)]
    by_cases he : n = m
    · subst he; simp
    · have : ¬ (pn 7 n = pn 7 m) := by
        intro hc
        have h1 := Nm.sv_pn 7 n (fits64 wn)
        have h3 := Nm.sv_pn 7 m (fits64 wm)
        rw [hc] at h1; omega
      rw [beq_eq_false_iff_ne.2 he, beq_eq_false_iff_ne.2 this]; rfl
  rw [fin, if_pos (by omega)]
  by_cases hl : (pn 7 n).length < (pn 7 m).length
  · rw [if_pos (by omega)]
  · rw [if_neg (by omega), if_neg]
    rw [Lib.strOfNums_toList, Lib.strOfNums_toList, le_less (r2 (by omega)) (Nm.pn_bytes _ _) (Nm.pn_bytes _ _)]
    decide
end Go.Proofs.Ytghkfoaiieajhaa.Pure
