/- The plain law of TextChecks: a content is wrong just with the byte with which the document says. -/
import Derived.Test.YtjookjdpfbflkaaRTxt
import Derived.Test.YtjookjdpfbflkaaPAx6
namespace Go.Proofs.Ytjookjdpfbflkaa.Pure
open Go.RowKit Go.Proofs.Ytjookjdpfbflkaa.PA Go.Proofs.YtjookjdpfbflkaaW.PrintWords Go.Proofs.YtjookjdpfbflkaaW.PrintLast Go.Proofs.YtjookjdpfbflkaaW.PrintMore
open Go.Proofs.Ytjookjdpfbflkaa.Bs Go.Proofs.Ytjookjdpfbflkaa.BTxt Go.Proofs.Ytjookjdpfbflkaa.RTxt
open Go.Proofs.Ytjookjdpfbflkaa.Tx (run st0 can)
set_option linter.unusedVariables false

/-- How what the automaton takes and what the reference tells go together. -/
theorem told (tag n : Int) (s : ByteArray) (hn : (s.size : Int) ≤ n) (at_ : Int)
    (hw : (at_ = -1 ∧ ∀ j, j ≤ s.size → can tag n ((bytesOf s).take j) = true) ∨
       (∃ a : Nat, at_ = a ∧ a ≤ s.size ∧ can tag n ((bytesOf s).take a) = false ∧ ∀ j, j < a → can tag n ((bytesOf s).take j) = true)) (i : Nat) (hi : i < s.size) (h : (run tag (st0 n) ((bytesOf s).take i)).isSome = true) :
    (run tag (st0 n) ((bytesOf s).take (i + 1))).isSome = (at_ != ((i : Int) + 1)) := by
  have hc : ∀ j, j ≤ s.size → (run tag (st0 n) ((bytesOf s).take j)).isSome = can tag n ((bytesOf s).take j) := by
    intro j hj
    refine Tx.run_is tag n _ (fun b hb => bytes_of s b (List.mem_of_mem_take hb)) ?_
    rw [List.length_take, bytesOf_length]; omega
  rw [hc (i + 1) (by omega)]
  rcases hw with ⟨rfl, h2⟩ | ⟨a, rfl, h2, h3, h4⟩
  · rw [h2 (i + 1) (by omega)]; simp; omega
  · have hai : i < a := by
      rcases Nat.lt_or_ge i a with h5 | h5
      · exact h5
      · exfalso
        have h6 := Tx.run_front tag (st0 n) ((bytesOf s).take i) a h
        rw [List.take_take, Nat.min_eq_left h5, hc a h2, h3] at h6
        cases h6
    rcases (by omega : a = i + 1 ∨ i + 1 < a) with h5 | h5
    · subst h5; rw [h3]; simp
    · rw [h4 (i + 1) h5]; simp; omega
theorem checks_l0 (tag n : Int) (s : ByteArray) (hn : (s.size : Int) ≤ n) (hn2 : n ≤ 9223372036854775807) (h200 : s.size ≤ 200) (at_ : Int)
    (hw : (at_ = -1 ∧ ∀ j, j ≤ s.size → can tag n ((bytesOf s).take j) = true) ∨
       (∃ a : Nat, at_ = a ∧ a ≤ s.size ∧ can tag n ((bytesOf s).take a) = false ∧ ∀ j, j < a → can tag n ((bytesOf s).take j) = true)) :
    ∀ (d k i : Nat) (ok : Bool) (t l m lo hi : Int), i + d = s.size → d + 4 ≤ k → Runs tag s ok i t l m lo hi n →
      gantletlaw14_TextChecks.l0 k s at_ ok (s.size : Int) (i : Int) t l m lo hi = some true := by
  intro d
  induction d with
  | zero =>
    intro k i ok t l m lo hi hi' hk h
    obtain ⟨k, rfl⟩ : ∃ m, k = m + 1 := ⟨k - 1, by omega⟩
    rw [gantletlaw14_TextChecks.l0, if_neg (by omega)]
  | succ d ih =>
    intro k i ok t l m lo hi hi' hk h
    obtain ⟨k, rfl⟩ : ∃ m, k = m + 3 := ⟨k - 3, by omega⟩
    rw [gantletlaw14_TextChecks.l0, if_pos (by omega)]
    cases ok with
    | false => rw [if_neg (by decide)]
    | true =>
      obtain ⟨ok', t', l', m', lo', hi'', hp, hr⟩ := h.push (by omega) ⟨by omega, by omega⟩ k
      rw [if_pos rfl, if_pos (by omega), if_pos (by omega), hp]
      simp only [Option.bind_some]
      rw [w64 (x := (i : Int) + 1) (by omega) (by omega)]
      have ht := told tag n s hn at_ hw i (by omega) h.ok_.symm
      rw [hr.ok_, ht, if_neg (by simp), ← ht, ← hr.ok_, show ((i : Int) + 1) = ((i + 1 : Nat) : Int) by omega]
      exact ih (k + 2) (i + 1) ok' t' l' m' lo' hi'' (by omega) (by omega) hr
theorem TextChecks (tag n : Int) (s : ByteArray) (ht : (Lit.int .i64 tag).wf = true) (hn : (Lit.int .i64 n).wf = true) (_ : s.size ≤ 140737488351232) : ∃ k, gantletlaw14_TextChecks.f k tag n s = some true := by
  refine ⟨3000, ?_⟩
  have hnb := wf64 hn
  have aw : gantletlaw14_TextChecks.j0 3000 tag n s true = some true := by
    rw [gantletlaw14_TextChecks.j0, if_pos rfl, awake_ok 2999 (by decide)]; rfl
  unfold gantletlaw14_TextChecks.f
  rw [awake_ok 3000 (by decide)]
  simp only [Option.bind_some, if_true]
  by_cases h : (s.size : Int) > 200
  · rw [if_pos h, aw]
  rw [if_neg h]
  by_cases h2 : (s.size : Int) > mx n 0
  · rw [show decide ((s.size : Int) > mx n 0) = true by simpa using h2, aw]
  rw [show decide ((s.size : Int) > mx n 0) = false by simpa using h2]
  obtain ⟨at_, e, hw⟩ := wrong_eq tag n s (by omega) 2999 (by omega)
  rw [gantletlaw14_TextChecks.j0, if_neg (by decide), e]
  simp only [Option.bind_some]
  have hmx : mx n 0 = if n < 0 then 0 else n := rfl
  by_cases hn0 : n < 0
  · rw [hmx, if_pos hn0] at h2
    rw [start_neg tag n hn0]
    simp only [Option.bind_some]
    have hc : can tag n ((bytesOf s).take 0) = false := by unfold can; rw [if_pos hn0]
    have ha : at_ = 0 := by
      rcases hw with ⟨_, g⟩ | ⟨a, g1, g2, g3, g4⟩
      · rw [g 0 (by omega)] at hc; cases hc
      · omega
    rw [ha, if_neg (by decide)]
    rw [gantletlaw14_TextChecks.l0, if_neg (by omega)]
  · rw [hmx, if_neg hn0] at h2
    rw [start_pos tag n hn0]
    simp only [Option.bind_some]
    have hc : can tag n ((bytesOf s).take 0) = true := by
      rw [← Tx.run_is tag n _ (by simp [Tx.Bytes]) (by simp; omega)]; rfl
    have ha : at_ ≠ 0 := by
      rcases hw with ⟨g, _⟩ | ⟨a, g1, g2, g3, g4⟩
      · omega
      · intro hz
        have : a = 0 := by omega
        subst this; rw [hc] at g3; cases g3
    rw [if_neg (by simpa using ha)]
    exact checks_l0 tag n s (by omega) hnb.2 (by omega) at_ hw s.size 2999 0 true tag n 0 0 0 (by omega) (by omega) (Runs.start tag s n 0 0)
end Go.Proofs.Ytjookjdpfbflkaa.Pure
