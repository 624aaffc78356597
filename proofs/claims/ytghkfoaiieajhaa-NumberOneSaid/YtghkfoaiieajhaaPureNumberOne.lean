/- The plain law of NumberOne: a content that is got is put as it was. -/
import Derived.Test.YtghkfoaiieajhaaRNum
import Derived.Test.YtghkfoaiieajhaaPAx6
namespace Go.Proofs.Ytghkfoaiieajhaa.Pure
open Go.RowKit Go.Proofs.Ytghkfoaiieajhaa.PA Go.Proofs.YtghkfoaiieajhaaW.PrintWords Go.Proofs.YtghkfoaiieajhaaW.PrintLast Go.Proofs.YtghkfoaiieajhaaW.PrintMore
open Go.Proofs.Ytghkfoaiieajhaa.Bs Go.Proofs.Ytghkfoaiieajhaa.BNum Go.Proofs.Ytghkfoaiieajhaa.RNum
open Go.Proofs.Ytghkfoaiieajhaa.Nm (pn sb fo sv Least Fits)

theorem wr_least (a : Int) (r : List Int) (h : wr 2 ((a :: r).length : Int) (a :: r) = -1) : Least (a :: r) := by
  cases r with
  | nil => trivial
  | cons b r =>
    rw [wr_two] at h
    have h' : ¬ (okP 2 1 a b = false) := by
      intro hc
      rw [if_pos ⟨by simp, by simpa using hc⟩] at h
      simp at h
    simp [okP] at h'
    exact ⟨by omega, by omega⟩
theorem fo_range (l : List Int) (hb : Ok8 l) (v : Int) (hv : -128 ≤ v ∧ v < 128) (hl : l.length ≤ 7) : -9223372036854775808 ≤ fo v l ∧ fo v l ≤ 9223372036854775807 := by
  obtain ⟨h1, h2⟩ := fo_bound l hb v 0 (by omega) (by omega)
  have : (256 : Int) ^ (0 + l.length) ≤ 256 ^ 7 := by
    rw [Nat.zero_add]
    match l.length, hl with
    | 0, _ => decide
    | 1, _ => decide
    | 2, _ => decide
    | 3, _ => decide
    | 4, _ => decide
    | 5, _ => decide
    | 6, _ => decide
    | 7, _ => decide
  rw [show (256 : Int) ^ 7 = 72057594037927936 from rfl] at this
  omega
theorem NumberOne (c : ByteArray) (_ : c.size ≤ 140737488351232) : ∃ k, gantletlaw10_NumberOne.f k c = some true := by
  refine ⟨3000, ?_⟩
  unfold gantletlaw10_NumberOne.f
  rw [awake_ok 3000 (by decide)]
  simp only [Option.bind_some, if_true]
  by_cases h : (c.size : Int) > 100
  · rw [show decide ((c.size : Int) > 100) = true by simpa using h]
    rw [gantletlaw10_NumberOne.j0, if_pos rfl, awake_ok 2999 (by decide)]; rfl
  · rw [show decide ((c.size : Int) > 100) = false by simpa using h]
    rw [gantletlaw10_NumberOne.j0, if_neg (by decide), get_ok c 2999 (by omega) (by decide)]
    simp only [Option.bind_some]
    cases hc : bytesOf c with
    | nil => rfl
    | cons a r =>
      by_cases hg : r.length < 8 ∧ wr 2 ((a :: r).length : Int) (a :: r) = -1
      · have he : got (a :: r) = (sv (a :: r), true) := by simp only [got]; rw [if_pos hg]
        rw [he]
        simp only [if_true]
        have hb := bytes_of c
        rw [hc] at hb
        have ha := hb a (by simp)
        have hr := fo_range r (fun x hx => hb x (by simp [hx])) (sb a) (by unfold sb; split <;> omega) (by omega)
        rw [put_ok 2991 (sv (a :: r)) hr]
        simp only [Option.bind_some]
        rw [toList_beq, bytesOf_nums _ (Nm.pn_bytes _ _), Nm.pn_sv 7 (a :: r) (by simp) (by simp; omega) hb (wr_least a r hg.2), hc]
        simp
      · have he : got (a :: r) = (0, false) := by simp only [got]; rw [if_neg hg]
        rw [he]
        rfl
end Go.Proofs.Ytghkfoaiieajhaa.Pure
