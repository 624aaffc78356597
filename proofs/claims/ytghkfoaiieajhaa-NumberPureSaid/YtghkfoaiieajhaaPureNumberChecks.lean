/- The plain law of NumberChecks: a content is wrong just with the byte with which the document says. -/
import Derived.Test.YtghkfoaiieajhaaRNum
import Derived.Test.YtghkfoaiieajhaaPAx5
namespace Go.Proofs.Ytghkfoaiieajhaa.Pure
open Go.RowKit Go.Proofs.Ytghkfoaiieajhaa.PA Go.Proofs.YtghkfoaiieajhaaW.PrintWords Go.Proofs.YtghkfoaiieajhaaW.PrintLast Go.Proofs.YtghkfoaiieajhaaW.PrintMore
open Go.Proofs.Ytghkfoaiieajhaa.Bs Go.Proofs.Ytghkfoaiieajhaa.BNum Go.Proofs.Ytghkfoaiieajhaa.RNum
set_option linter.unusedVariables false

/-- At place i, behind a first byte, a byte may come just if the content isn't wrong with it. -/
theorem ok_wr (tag n : Int) (l : List Int) (hn : okN tag n = true) (hn0 : 0 ≤ n) (hl : (l.length : Int) ≤ n) (i : Nat) (hi : i < l.length) (first : Int) (hf : i ≥ 1 → first = l.getD 0 0) :
    okP tag (i : Int) first (l.getD i 0) = (wr tag n l != ((i : Int) + 1)) := by
  have h0 : ¬ (okN tag n = false ∨ n < 0) := by rw [hn]; simp; omega
  unfold wr
  rw [if_neg h0]
  by_cases h1 : tag = 1
  · subst h1
    have hn1 : n = 1 := by simpa [okN] using hn
    obtain rfl : i = 0 := by omega
    cases l with
    | nil => simp at hi
    | cons b r => simp [okP]; split <;> simp_all
  by_cases h2 : tag = 2 ∨ tag = 10
  · rw [if_neg h1, if_pos h2]
    cases l with
    | nil => simp at hi
    | cons a r =>
      cases r with
      | nil =>
        obtain rfl : i = 0 := by simpa using hi
        simp [okP, h1]
      | cons b r =>
        match i, hi with
        | 0, _ => simp [okP, h1]; split <;> simp
        | 1, _ =>
          have : first = a := by simpa using hf (by decide)
          subst this
          simp only [List.getD_cons_succ, List.getD_cons_zero, Int.natCast_one]
          cases okP tag 1 first b <;> simp
        | i + 2, _ =>
          have g : ¬ (((i + 2 : Nat) : Int) = 1) := by omega
          simp only [okP, if_neg h1, g, and_false, if_false]
          cases okP tag 1 a b
          · simp; omega
          · simp; omega
  · rw [if_neg h1, if_neg h2]
    simp only [okP, if_neg h1, h2, false_and, if_false]
    simp; omega
theorem checks_l0 (tag n : Int) (s : ByteArray) (hn : okN tag n = true) (hn0 : 0 ≤ n) (hl : (s.size : Int) ≤ n) (h300 : s.size ≤ 300) :
    ∀ (d k i : Nat) (first : Int), i + d = s.size → 2 * d + 2 ≤ k → (i ≥ 1 → first = (bytesOf s).getD 0 0) →
      gantletlaw10_NumberChecks.l0 k s (wr tag n (bytesOf s)) (s.size : Int) (i : Int) tag n (i : Int) first = some true := by
  have hlen := bytesOf_length s
  intro d
  induction d with
  | zero =>
    intro k i first hi hk hf
    obtain ⟨k, rfl⟩ : ∃ m, k = m + 1 := ⟨k - 1, by omega⟩
    rw [gantletlaw10_NumberChecks.l0, if_neg (by omega)]
  | succ d ih =>
    intro k i first hi hk hf
    obtain ⟨k, rfl⟩ : ∃ m, k = m + 2 := ⟨k - 2, by omega⟩
    rw [gantletlaw10_NumberChecks.l0, if_pos (by omega), if_pos (by omega), if_pos (by omega), push_eq k tag n _ _ _ (by omega) (by omega)]
    simp only [Option.bind_some]
    rw [w64 (x := (i : Int) + 1) (by omega) (by omega), bt_get, Int.toNat_natCast]
    have ho := ok_wr tag n (bytesOf s) hn hn0 (by rw [hlen]; exact hl) i (by omega) first hf
    by_cases hp : okP tag (i : Int) first ((bytesOf s).getD i 0) = true
    · rw [if_pos hp]
      rw [hp] at ho
      simp only [← ho, bne_self_eq_false, Bool.false_eq_true, if_false, if_true]
      rw [show ((i : Int) + 1) = ((i + 1 : Nat) : Int) by omega]
      refine ih (k + 1) (i + 1) _ (by omega) (by omega) (fun _ => ?_)
      by_cases hz : i = 0
      · subst hz; simp
      · rw [if_neg (by omega)]; exact hf (by omega)
    · rw [if_neg hp]
      rw [show okP tag (i : Int) first ((bytesOf s).getD i 0) = false by simpa using hp] at ho
      simp only [← ho, bne_self_eq_false, Bool.false_eq_true, if_false]
theorem NumberChecks (tag n : Int) (s : ByteArray) (ht : (Lit.int .i64 tag).wf = true) (hn : (Lit.int .i64 n).wf = true) (_ : s.size ≤ 140737488351232) : ∃ k, gantletlaw10_NumberChecks.f k tag n s = some true := by
  refine ⟨3000, ?_⟩
  have aw : gantletlaw10_NumberChecks.j0 3000 tag n s true = some true := by
    rw [gantletlaw10_NumberChecks.j0, if_pos rfl, awake_ok 2999 (by decide)]; rfl
  unfold gantletlaw10_NumberChecks.f
  rw [awake_ok 3000 (by decide)]
  simp only [Option.bind_some, if_true]
  by_cases h : (s.size : Int) > 300
  · rw [if_pos h, aw]
  rw [if_neg h]
  by_cases h2 : (s.size : Int) > mx n 0
  · rw [show decide ((s.size : Int) > mx n 0) = true by simpa using h2, aw]
  rw [show decide ((s.size : Int) > mx n 0) = false by simpa using h2]
  rw [gantletlaw10_NumberChecks.j0, if_neg (by decide), wrong_eq 2998, BNum.start_eq 2998]
  simp only [Option.bind_some]
  have hmx : mx n 0 = if n < 0 then 0 else n := rfl
  by_cases ho : okN tag n = true
  · rw [if_pos ho]
    by_cases hn0 : n < 0
    · exfalso
      unfold okN at ho
      split at ho
      · simp at ho; omega
      split at ho
      · simp at ho; omega
      split at ho
      · simp at ho; omega
      · simp at ho; omega
    rw [hmx, if_neg hn0] at h2
    have hw0 : wr tag n (bytesOf s) ≠ 0 := by
      have g : ¬ (okN tag n = false ∨ n < 0) := by rw [ho]; simp; omega
      unfold wr
      rw [if_neg g]
      split
      · split
        · split <;> decide
        · decide
      split
      · split
        · split <;> decide
        · decide
      · decide
    simp only [if_true]
    rw [if_neg (by simpa using hw0)]
    exact checks_l0 tag n s ho (by omega) (by omega) (by omega) s.size 2999 0 0 (by omega) (by omega) (by omega)
  · have ho' : okN tag n = false := by simpa using ho
    rw [if_neg ho]
    have hw0 : wr tag n (bytesOf s) = 0 := by unfold wr; rw [if_pos (.inl ho')]
    rw [hw0]
    rfl
end Go.Proofs.Ytghkfoaiieajhaa.Pure
