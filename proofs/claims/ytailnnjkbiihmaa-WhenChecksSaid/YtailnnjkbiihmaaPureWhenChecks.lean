/- The plain law of WhenChecks: a content is wrong just with the byte with which the document says. -/
import Derived.Test.YtailnnjkbiihmaaWDat
import Derived.Test.YtailnnjkbiihmaaPAx6
namespace Go.Proofs.Ytailnnjkbiihmaa.Pure
open Go.RowKit Go.Proofs.Ytailnnjkbiihmaa.PA Go.Proofs.YtailnnjkbiihmaaW.PrintWords Go.Proofs.YtailnnjkbiihmaaW.PrintLast Go.Proofs.YtailnnjkbiihmaaW.PrintMore
open Go.Proofs.Ytailnnjkbiihmaa.Bs Go.Proofs.Ytailnnjkbiihmaa.BDat Go.Proofs.Ytailnnjkbiihmaa.Dt
set_option linter.unusedVariables false

/-- How what the automaton takes and what the reference tells go together. -/
theorem told (u : Bool) (s : ByteArray) (at_ : Int)
    (hw : (at_ = -1 ∧ ∀ j, j ≤ s.size → CanP (tagOf u) (lenOf u) ((bytesOf s).take j)) ∨
       (∃ a : Nat, at_ = a ∧ a ≤ s.size ∧ ¬ CanP (tagOf u) (lenOf u) ((bytesOf s).take a) ∧ ∀ j, j < a → CanP (tagOf u) (lenOf u) ((bytesOf s).take j))) (i : Nat) (hi : i < s.size) (h : (run u ([], lenOf u) ((bytesOf s).take i)).isSome = true) :
    (run u ([], lenOf u) ((bytesOf s).take (i + 1))).isSome = (at_ != ((i : Int) + 1)) := by
  have hc : ∀ l, CanP (tagOf u) (lenOf u) l ↔ (run u ([], lenOf u) l).isSome = true := by
    intro l
    constructor
    · rintro ⟨v, g1, _, g3⟩
      have : v = u := by revert g1; cases u <;> cases v <;> decide
      rwa [this] at g3
    · intro g; exact ⟨u, rfl, rfl, g⟩
  rcases hw with ⟨rfl, h2⟩ | ⟨a, rfl, h2, h3, h4⟩
  · rw [(hc _).1 (h2 (i + 1) (by omega))]; simp; omega
  · have hai : i < a := by
      rcases Nat.lt_or_ge i a with h5 | h5
      · exact h5
      · exfalso
        have h6 := run_front u ([], lenOf u) ((bytesOf s).take i) a h
        rw [List.take_take, Nat.min_eq_left h5] at h6
        exact h3 ((hc _).2 h6)
    rcases (by omega : a = i + 1 ∨ i + 1 < a) with h5 | h5
    · subst h5
      have : (run u ([], lenOf u) ((bytesOf s).take (i + 1))).isSome = false := by
        rw [Bool.eq_false_iff]; exact fun hh => h3 ((hc _).2 hh)
      rw [this]; simp
    · rw [(hc _).1 (h4 (i + 1) h5)]; simp; omega
theorem checks_l0 (u : Bool) (s : ByteArray) (hn : (s.size : Int) ≤ lenOf u) (at_ : Int)
    (hw : (at_ = -1 ∧ ∀ j, j ≤ s.size → CanP (tagOf u) (lenOf u) ((bytesOf s).take j)) ∨
       (∃ a : Nat, at_ = a ∧ a ≤ s.size ∧ ¬ CanP (tagOf u) (lenOf u) ((bytesOf s).take a) ∧ ∀ j, j < a → CanP (tagOf u) (lenOf u) ((bytesOf s).take j))) :
    ∀ (d k i : Nat) (ok : Bool) (D : ByteArray) (n : Int) (u' : Bool), i + d = s.size → d + 16 ≤ k → Runs u s ok i D n u' →
      gantletlaw13_WhenChecks.l0 k s at_ ok (s.size : Int) (i : Int) D n u' = some true := by
  have hN : lenOf u ≤ 15 := by cases u <;> decide
  intro d
  induction d with
  | zero =>
    intro k i ok D n u' hi' hk h
    obtain ⟨k, rfl⟩ : ∃ m, k = m + 1 := ⟨k - 1, by omega⟩
    rw [gantletlaw13_WhenChecks.l0, if_neg (by omega)]
  | succ d ih =>
    intro k i ok D n u' hi' hk h
    obtain ⟨k, rfl⟩ : ∃ m, k = m + 15 := ⟨k - 15, by omega⟩
    rw [gantletlaw13_WhenChecks.l0, if_pos (by omega)]
    cases ok with
    | false => rw [if_neg (by decide)]
    | true =>
      obtain ⟨ok', D', n', u'', hp, hr⟩ := h.push (by omega) (by omega) k
      rw [if_pos rfl, if_pos (by omega), if_pos (by omega), hp]
      simp only [Option.bind_some]
      rw [w64 (x := (i : Int) + 1) (by omega) (by omega)]
      have ht := told u s at_ hw i (by omega) h.ok_.symm
      rw [hr.ok_, ht, if_neg (by simp), ← ht, ← hr.ok_, show ((i : Int) + 1) = ((i + 1 : Nat) : Int) by omega]
      exact ih (k + 14) (i + 1) ok' D' n' u'' (by omega) (by omega) hr
theorem WhenChecks (tag n : Int) (s : ByteArray) (ht : (Lit.int .i64 tag).wf = true) (hn : (Lit.int .i64 n).wf = true) (_ : s.size ≤ 140737488351232) : ∃ k, gantletlaw13_WhenChecks.f k tag n s = some true := by
  refine ⟨1000, ?_⟩
  have hnb := wf64 hn
  have aw : gantletlaw13_WhenChecks.j0 1000 tag n s true = some true := by
    rw [gantletlaw13_WhenChecks.j0, if_pos rfl, awake_ok 999 (by decide)]; rfl
  unfold gantletlaw13_WhenChecks.f
  rw [awake_ok 1000 (by decide)]
  simp only [Option.bind_some, if_true]
  by_cases h : (s.size : Int) > 20
  · rw [if_pos h, aw]
  rw [if_neg h]
  by_cases h2 : (s.size : Int) > mx n 0
  · rw [show decide ((s.size : Int) > mx n 0) = true by simpa using h2, aw]
  rw [show decide ((s.size : Int) > mx n 0) = false by simpa using h2]
  have hmx : mx n 0 = if n < 0 then 0 else n := rfl
  rw [gantletlaw13_WhenChecks.j0, if_neg (by decide)]
  by_cases hu : ∃ u : Bool, tag = tagOf u ∧ n = lenOf u
  · obtain ⟨u, rfl, rfl⟩ := hu
    have hN : lenOf u = 13 ∨ lenOf u = 15 := by cases u <;> decide
    rw [hmx, if_neg (by omega)] at h2
    obtain ⟨at_, e, hw⟩ := wrong_eq (tagOf u) (lenOf u) s (by omega) (by omega) 999 (by omega)
    rw [e, start_yes]
    simp only [Option.bind_some]
    have hc : CanP (tagOf u) (lenOf u) ((bytesOf s).take 0) := ⟨u, rfl, rfl, rfl⟩
    have ha : at_ ≠ 0 := by
      rcases hw with ⟨g, _⟩ | ⟨a, g1, g2, g3, g4⟩
      · omega
      · intro hz
        have : a = 0 := by omega
        subst this; exact g3 hc
    rw [if_neg (by simpa using ha)]
    exact checks_l0 u s (by omega) at_ hw s.size 999 0 true _ _ _ (by omega) (by omega) (Runs.start u s)
  · have hno : ∀ u : Bool, ¬ (tag = tagOf u ∧ n = lenOf u) := fun u hh => hu ⟨u, hh⟩
    have hcan : ∀ l, ¬ CanP tag n l := by
      rintro l ⟨u, g1, g2, _⟩; exact hno u ⟨g1, g2⟩
    have hwr : gantletref13_Wrong.f 999 tag n s = some 0 := by
      by_cases hn0 : n < 0
      · rw [hmx, if_pos hn0] at h2
        unfold gantletref13_Wrong.f
        rw [gantletref13_Wrong.l0, if_pos (by omega), if_pos (by decide)]
        have hcf : gantletref13_Can.f 998 tag n (s.extract 0 (0 : Int).toNat) = some false := by
          unfold gantletref13_Can.f
          by_cases h23 : tag = 23
          · rw [if_pos h23, if_neg (by omega), gantletref13_Can.j0, if_pos rfl]
          · rw [if_neg h23]
            by_cases h24 : tag = 24
            · rw [if_pos h24, if_neg (by omega), gantletref13_Can.j0, if_pos rfl]
            · rw [if_neg h24, gantletref13_Can.j0, if_pos rfl]
        rw [hcf]; rfl
      · rw [hmx, if_neg hn0] at h2
        obtain ⟨at_, e, hw⟩ := wrong_eq tag n s (by omega) (by omega) 999 (by omega)
        rw [e]
        rcases hw with ⟨_, g⟩ | ⟨a, g1, g2, g3, g4⟩
        · exact absurd (g 0 (by omega)) (hcan _)
        · by_cases ha : a = 0
          · rw [g1, ha]; rfl
          · exact absurd (g4 0 (by omega)) (hcan _)
    rw [hwr, start_no tag n hno]
    simp only [Option.bind_some]
    rw [if_neg (by decide), gantletlaw13_WhenChecks.l0]
    by_cases hs : (0 : Int) < (s.size : Int)
    · rw [if_pos hs, if_neg (by decide)]
    · rw [if_neg hs]
end Go.Proofs.Ytailnnjkbiihmaa.Pure
