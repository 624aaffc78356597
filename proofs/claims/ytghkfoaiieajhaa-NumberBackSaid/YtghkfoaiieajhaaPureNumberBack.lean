/- The plain law of NumberBack: a value that is put is got as it was; its content is right. -/
import Derived.Test.YtghkfoaiieajhaaRNum
import Derived.Test.YtghkfoaiieajhaaPAx6
namespace Go.Proofs.Ytghkfoaiieajhaa.Pure
open Go.RowKit Go.Proofs.Ytghkfoaiieajhaa.PA Go.Proofs.YtghkfoaiieajhaaW.PrintWords Go.Proofs.YtghkfoaiieajhaaW.PrintLast Go.Proofs.YtghkfoaiieajhaaW.PrintMore
open Go.Proofs.Ytghkfoaiieajhaa.Bs Go.Proofs.Ytghkfoaiieajhaa.BNum Go.Proofs.Ytghkfoaiieajhaa.RNum
open Go.Proofs.Ytghkfoaiieajhaa.Nm (pn sb fo sv Least Fits)

theorem least_wr (a : Int) (r : List Int) (h : Least (a :: r)) : wr 2 ((a :: r).length : Int) (a :: r) = -1 := by
  rw [wr_two, if_neg]
  rintro ⟨h1, h2⟩
  cases r with
  | nil => exact h1 rfl
  | cons b r =>
    obtain ⟨g1, g2⟩ := h
    simp [okP] at h2
    omega
theorem NumberBack (n : Int) (hn : (Lit.int .i64 n).wf = true) : ∃ k, gantletlaw10_NumberBack.f k n = some true := by
  refine ⟨3000, ?_⟩
  have hw := wf64 hn
  have hf := fits64 hw
  have hl := Nm.pn_ne 7 n
  have hb := Nm.pn_bytes 7 n
  have hsz : (strOfNums (pn 7 n)).size = (pn 7 n).length := strOfNums_size _
  have hls := Nm.least_pn 7 n hf
  have hsv := Nm.sv_pn 7 n hf
  unfold gantletlaw10_NumberBack.f
  rw [put_ok 2992 n hw]
  simp only [Option.bind_some]
  rw [get_ok _ 3000 (by omega) (by decide), awake_ok 3000 (by decide), wrong_eq 2999, bytesOf_nums _ hb, hsz]
  cases hp : pn 7 n with
  | nil => rw [hp] at hl; simp at hl
  | cons a r =>
    rw [hp] at hl hls hsv
    have hg : got (a :: r) = (sv (a :: r), true) := by
      simp only [got]; rw [if_pos ⟨by simp at hl; omega, least_wr a r hls⟩]
    simp only [Option.bind_some]
    rw [hg, hsv, least_wr a r hls]
    simp only [if_true]
    rw [if_pos (by omega), if_pos (by omega)]
    rfl
end Go.Proofs.Ytghkfoaiieajhaa.Pure
