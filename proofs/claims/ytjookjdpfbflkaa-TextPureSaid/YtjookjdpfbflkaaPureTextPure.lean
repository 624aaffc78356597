/- The plain law of TextPure: pushing changes no state. -/
import Derived.Test.YtjookjdpfbflkaaRTxt
import Derived.Test.YtjookjdpfbflkaaPureTextChecks
import Derived.Test.YtjookjdpfbflkaaPAx8
namespace Go.Proofs.Ytjookjdpfbflkaa.Pure
open Go.RowKit Go.Proofs.Ytjookjdpfbflkaa.PA Go.Proofs.YtjookjdpfbflkaaW.PrintWords Go.Proofs.YtjookjdpfbflkaaW.PrintLast Go.Proofs.YtjookjdpfbflkaaW.PrintMore
open Go.Proofs.Ytjookjdpfbflkaa.Bs Go.Proofs.Ytjookjdpfbflkaa.BTxt Go.Proofs.Ytjookjdpfbflkaa.RTxt
open Go.Proofs.Ytjookjdpfbflkaa.Tx (run st0 can)
set_option linter.unusedVariables false

theorem pure_l0 (tag b : Int) (hb : 0 ≤ b ∧ b < 256) (s : ByteArray) (h200 : s.size ≤ 200) (at_ : Int)
    (hw : (at_ = -1 ∧ ∀ j, j ≤ s.size → can tag s.size ((bytesOf s).take j) = true) ∨
       (∃ a : Nat, at_ = a ∧ a ≤ s.size ∧ can tag s.size ((bytesOf s).take a) = false ∧ ∀ j, j < a → can tag s.size ((bytesOf s).take j) = true)) :
    ∀ (d k i : Nat) (ok : Bool) (t l m lo hi : Int), i + d = s.size → d + 4 ≤ k → Runs tag s ok i t l m lo hi s.size →
      gantletlaw14_TextPure.l0 k s b ok at_ (s.size : Int) (i : Int) t l m lo hi = some true := by
  intro d
  induction d with
  | zero =>
    intro k i ok t l m lo hi hi' hk h
    obtain ⟨k, rfl⟩ : ∃ m, k = m + 1 := ⟨k - 1, by omega⟩
    rw [gantletlaw14_TextPure.l0, if_neg (by omega)]
  | succ d ih =>
    intro k i ok t l m lo hi hi' hk h
    obtain ⟨k, rfl⟩ : ∃ m, k = m + 3 := ⟨k - 3, by omega⟩
    rw [gantletlaw14_TextPure.l0, if_pos (by omega)]
    cases ok with
    | false =>
      rw [if_neg (by decide)]
      have hc : can tag s.size ((bytesOf s).take i) = false := by
        rw [← Tx.run_is tag s.size _ (fun b hb => bytes_of s b (List.mem_of_mem_take hb)) (by rw [List.length_take, bytesOf_length]; omega)]
        exact h.ok_.symm
      rcases hw with ⟨_, g⟩ | ⟨a, g1, g2, g3, g4⟩
      · rw [g i (by omega)] at hc; cases hc
      · have : a ≤ i := by
          rcases Nat.lt_or_ge i a with h5 | h5
          · rw [g4 i h5] at hc; cases hc
          · exact h5
        rw [if_pos (by omega)]; simp; omega
    | true =>
      obtain ⟨ok', t', l', m', lo', hi'', hp, hr⟩ := h.push (by omega) ⟨by omega, by omega⟩ k
      obtain ⟨e1, e2, e3, e4, e5⟩ := h.st_ rfl
      have hp1 := push_eq k t (l, m, lo, hi) b ⟨by simp only; omega, by simp only; omega, e4, e5⟩ hb.1 hb.2
      rw [if_pos rfl, hp1]
      simp only [Option.bind_some]
      rw [if_pos (by omega), if_pos (by omega), hp]
      simp only [Option.bind_some]
      rw [w64 (x := (i : Int) + 1) (by omega) (by omega), if_neg (by simp)]
      have ht := told tag s.size s (by omega) at_ hw i (by omega) h.ok_.symm
      rw [hr.ok_, ht, if_neg (by simp), ← ht, ← hr.ok_, show ((i : Int) + 1) = ((i + 1 : Nat) : Int) by omega]
      exact ih (k + 2) (i + 1) ok' t' l' m' lo' hi'' (by omega) (by omega) hr
theorem pure_all (m : Nat) (hm : 2000 ≤ m) (tag : Int) (s : ByteArray) (b : Int) (hb : 0 ≤ b ∧ b < 256) : gantletlaw14_TextPure.f (m + 1) tag s b = some true := by
  unfold gantletlaw14_TextPure.f
  rw [awake_ok (m + 1) (by omega)]
  simp only [Option.bind_some, if_true]
  by_cases h : (s.size : Int) > 100
  · rw [show decide ((s.size : Int) > 100) = true by simpa using h, gantletlaw14_TextPure.j0, if_pos rfl, awake_ok m (by omega)]; rfl
  obtain ⟨at_, e, hw⟩ := wrong_eq tag s.size s (by omega) m (by omega)
  rw [show decide ((s.size : Int) > 100) = false by simpa using h, gantletlaw14_TextPure.j0, if_neg (by decide), start_pos tag _ (by omega), e]
  simp only [Option.bind_some]
  exact pure_l0 tag b hb s (by omega) at_ hw s.size m 0 true tag (s.size : Int) 0 0 0 (by omega) (by omega) (Runs.start tag s _ 0 0)
theorem TextPure (tag : Int) (s : ByteArray) (b : Int) (ht : (Lit.int .i64 tag).wf = true) (_ : s.size ≤ 140737488351232) (hb : (Lit.int .u8 b).wf = true) : ∃ k, gantletlaw14_TextPure.f k tag s b = some true := by
  have hb' := wfu8 hb
  exact ⟨2000 + 1, pure_all 2000 (Nat.le_refl _) tag s b ⟨by omega, by omega⟩⟩
end Go.Proofs.Ytjookjdpfbflkaa.Pure
