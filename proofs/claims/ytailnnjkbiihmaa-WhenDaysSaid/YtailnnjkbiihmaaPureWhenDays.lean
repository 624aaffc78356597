/- The plain law of WhenDays: a month has as many days as the document says; a date's day is one of these. -/
import Derived.Test.YtailnnjkbiihmaaEDat
import Derived.Test.YtailnnjkbiihmaaPAx8
namespace Go.Proofs.Ytailnnjkbiihmaa.Pure
open Go.RowKit Go.Proofs.Ytailnnjkbiihmaa.PA Go.Proofs.YtailnnjkbiihmaaW.PrintWords Go.Proofs.YtailnnjkbiihmaaW.PrintLast Go.Proofs.YtailnnjkbiihmaaW.PrintMore
open Go.Proofs.Ytailnnjkbiihmaa.Bs Go.Proofs.Ytailnnjkbiihmaa.BDat Go.Proofs.Ytailnnjkbiihmaa.Dt
set_option linter.unusedVariables false

theorem put_full {D : List Int} {u : Bool} {p : List Int} {tag : Int} {l : List Int} (hc : Con tag l u p) (hF : F u p = D) : full D := by
  have hl := F_all hc.2.1 hc.2.2.2
  have hd := F_digs (u := u) hc.2.1.1
  rw [hF] at hl hd
  refine (full_okc D hl hd).2 ?_
  rw [← hF]; exact hc.2.1.2.1
theorem WhenDays (y m : Int) (s : ByteArray) (_ : (Lit.int .i64 y).wf = true) (_ : (Lit.int .i64 m).wf = true) (_ : s.size ≤ 140737488351232) : ∃ k, gantletlaw13_WhenDays.f k y m s = some true := by
  refine ⟨300, ?_⟩
  unfold gantletlaw13_WhenDays.f
  rw [awake_ok 300 (by decide), days_eq, rdays_eq 297]
  simp only [Option.bind_some, if_true]
  rw [show (Dt.days y m != Dt.days y m) = false by simp, gantletlaw13_WhenDays.j0, if_neg (by decide)]
  by_cases h : (s.size : Int) > 100
  · rw [if_pos h]
  rw [if_neg h]
  rcases put_cases 299 (by decide) s with ⟨u, c, p, e, hs, hc, hF, _, _⟩ | ⟨e, _, _⟩
  · rw [e]
    simp only [Option.bind_some, if_true]
    have hf := put_full hc hF
    have hb : ∀ i : Nat, i < 14 → (bt s (i : Int) - 48) % 256 = at_ (bytesOf s) i := by
      intro i hi
      have := at_dig hf.2.1 i (by omega)
      rw [at_bt, Int.emod_eq_of_lt (by omega) (by omega)]
    have b0 := hb 0 (by omega); have b1 := hb 1 (by omega); have b2 := hb 2 (by omega); have b3 := hb 3 (by omega)
    have b4 := hb 4 (by omega); have b5 := hb 5 (by omega); have b6 := hb 6 (by omega); have b7 := hb 7 (by omega)
    simp only [show ((0 : Nat) : Int) = 0 from rfl, show ((1 : Nat) : Int) = 1 from rfl, show ((2 : Nat) : Int) = 2 from rfl, show ((3 : Nat) : Int) = 3 from rfl, show ((4 : Nat) : Int) = 4 from rfl, show ((5 : Nat) : Int) = 5 from rfl, show ((6 : Nat) : Int) = 6 from rfl, show ((7 : Nat) : Int) = 7 from rfl] at b0 b1 b2 b3 b4 b5 b6 b7
    rw [b0, b1, b2, b3, b4, b5, b6, b7]
    obtain ⟨_, _, h1, h2, _⟩ := hf
    have e6 : 10 * at_ (bytesOf s) 6 + at_ (bytesOf s) 7 = Dt.two (bytesOf s) 6 := rfl
    have e4 : 10 * at_ (bytesOf s) 4 + at_ (bytesOf s) 5 = Dt.two (bytesOf s) 4 := rfl
    have ey : 1000 * at_ (bytesOf s) 0 + 100 * at_ (bytesOf s) 1 + 10 * at_ (bytesOf s) 2 + at_ (bytesOf s) 3 = yr (bytesOf s) := rfl
    rw [e6, e4, ey, hs]
    rw [if_pos (by decide), if_pos (by decide), if_pos (by decide), if_pos (by decide), if_pos (by decide), if_pos (by decide), if_pos (by decide), if_pos (by decide), if_pos (by decide), if_pos h1, days_eq]
    simp only [Option.bind_some]
    simpa using h2
  · rw [e]; rfl
end Go.Proofs.Ytailnnjkbiihmaa.Pure
