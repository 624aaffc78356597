/- The plain law of NumberPure: pushing changes no state. -/
import Derived.Test.YtghkfoaiieajhaaPureNumberChecks
import Derived.Test.YtghkfoaiieajhaaPAx7
namespace Go.Proofs.Ytghkfoaiieajhaa.Pure
open Go.RowKit Go.Proofs.Ytghkfoaiieajhaa.PA Go.Proofs.YtghkfoaiieajhaaW.PrintWords Go.Proofs.YtghkfoaiieajhaaW.PrintLast Go.Proofs.YtghkfoaiieajhaaW.PrintMore
open Go.Proofs.Ytghkfoaiieajhaa.Bs Go.Proofs.Ytghkfoaiieajhaa.BNum Go.Proofs.Ytghkfoaiieajhaa.RNum
set_option linter.unusedVariables false

/-- Of what came up to a byte it is told with that byte just what is told of all. -/
theorem wr_front (tag n : Int) (l : List Int) (i : Nat) (hi : i < l.length) : (wr tag n (l.take (i + 1)) != ((i : Int) + 1)) = (wr tag n l != ((i : Int) + 1)) := by
  unfold wr
  by_cases h0 : okN tag n = false ∨ n < 0
  · rw [if_pos h0, if_pos h0]
  rw [if_neg h0, if_neg h0]
  cases l with
  | nil => simp at hi
  | cons a r =>
    cases r with
    | nil =>
      obtain rfl : i = 0 := by simpa using hi
      rfl
    | cons b r =>
      match i, hi with
      | 0, _ =>
        simp only [List.take_succ_cons, List.take_zero]
        split
        · rfl
        split
        · split <;> simp
        · rfl
      | i + 1, _ => simp only [List.take_succ_cons]
theorem pure_l0 (tag n b : Int) (s : ByteArray) (hn : okN tag n = true) (hn0 : 0 ≤ n) (hl : (s.size : Int) ≤ n) (h300 : s.size ≤ 300) :
    ∀ (d k i : Nat) (first : Int) (ok : Bool) (t m at_ : Int), i + d = s.size → 2 * d + 2 ≤ k → (ok = true → t = tag ∧ m = n ∧ at_ = (i : Int) ∧ (i ≥ 1 → first = (bytesOf s).getD 0 0)) →
      gantletlaw10_NumberPure.l0 k s b tag n ok (s.size : Int) (i : Int) t m at_ first = some true := by
  have hlen := bytesOf_length s
  intro d
  induction d with
  | zero =>
    intro k i first ok t m at_ hi hk hf
    obtain ⟨k, rfl⟩ : ∃ m, k = m + 1 := ⟨k - 1, by omega⟩
    rw [gantletlaw10_NumberPure.l0, if_neg (by omega)]
  | succ d ih =>
    intro k i first ok t m at_ hi hk hf
    obtain ⟨k, rfl⟩ : ∃ m, k = m + 2 := ⟨k - 2, by omega⟩
    rw [gantletlaw10_NumberPure.l0, if_pos (by omega)]
    cases ok with
    | false => rw [if_neg (by decide)]
    | true =>
      obtain ⟨rfl, rfl, rfl, hq⟩ := hf rfl
      have ho := ok_wr t m (bytesOf s) hn hn0 (by rw [hlen]; exact hl) i (by omega) first hq
      rw [if_pos rfl, push_eq k t m _ _ _ (by omega) (by omega), push_eq k t m _ _ (bt s (i : Int)) (by omega) (by omega), w64 (x := (i : Int) + 1) (by omega) (by omega)]
      simp only [Option.bind_some]
      rw [if_pos (by omega), if_pos (by omega), if_neg (by simp), if_pos (by omega), if_pos (by omega), wrong_eq k, bt_get, Int.toNat_natCast, bytesOf_front, show (((i : Int) + 1).toNat) = i + 1 by omega]
      simp only [Option.bind_some]
      have hw := wr_front t m (bytesOf s) i (by omega)
      rw [hw, ← ho]
      by_cases hp : okP t (i : Int) first ((bytesOf s).getD i 0) = true
      · rw [if_pos hp, hp]
        rw [if_neg (by simp), show ((i : Int) + 1) = ((i + 1 : Nat) : Int) by omega]
        refine ih (k + 1) (i + 1) _ true _ _ _ (by omega) (by omega) (fun _ => ⟨rfl, rfl, rfl, fun _ => ?_⟩)
        by_cases hz : i = 0
        · subst hz; simp
        · rw [if_neg (by omega)]; exact hq (by omega)
      · have hp' : okP t (i : Int) first ((bytesOf s).getD i 0) = false := by simpa using hp
        rw [if_neg hp, hp']
        rw [if_neg (by simp), show ((i : Int) + 1) = ((i + 1 : Nat) : Int) by omega]
        exact ih (k + 1) (i + 1) _ false _ _ _ (by omega) (by omega) (fun h => by cases h)
theorem NumberPure (tag n : Int) (s : ByteArray) (b : Int) (ht : (Lit.int .i64 tag).wf = true) (hn : (Lit.int .i64 n).wf = true) (_ : s.size ≤ 140737488351232) (hb : (Lit.int .u8 b).wf = true) : ∃ k, gantletlaw10_NumberPure.f k tag n s b = some true := by
  refine ⟨3000, ?_⟩
  have aw : gantletlaw10_NumberPure.j0 3000 s b tag n true = some true := by
    rw [gantletlaw10_NumberPure.j0, if_pos rfl, awake_ok 2999 (by decide)]; rfl
  unfold gantletlaw10_NumberPure.f
  rw [awake_ok 3000 (by decide)]
  simp only [Option.bind_some, if_true]
  by_cases h : (s.size : Int) > 300
  · rw [if_pos h, aw]
  rw [if_neg h]
  by_cases h1 : n < 0
  · rw [if_pos h1, aw]
  rw [if_neg h1]
  by_cases h2 : (s.size : Int) > n
  · rw [show decide ((s.size : Int) > n) = true by simpa using h2, aw]
  rw [show decide ((s.size : Int) > n) = false by simpa using h2]
  rw [gantletlaw10_NumberPure.j0, if_neg (by decide), BNum.start_eq 2998]
  simp only [Option.bind_some]
  by_cases ho : okN tag n = true
  · rw [if_pos ho]
    exact pure_l0 tag n b s ho (by omega) (by omega) (by omega) s.size 2999 0 _ true _ _ _ (by omega) (by omega) (fun _ => ⟨rfl, rfl, rfl, by omega⟩)
  · rw [if_neg ho]
    by_cases hz : s.size = 0
    · rw [gantletlaw10_NumberPure.l0, if_neg (by omega)]
    · rw [gantletlaw10_NumberPure.l0, if_pos (by omega), if_neg (by decide)]
end Go.Proofs.Ytghkfoaiieajhaa.Pure
