/- The plain law of TextFront: a PrintableString is an IA5String, and that UTF-8; each beginning isn't wrong. -/
import Derived.Test.YtjookjdpfbflkaaRTxt
import Derived.Test.YtjookjdpfbflkaaPAx7
namespace Go.Proofs.Ytjookjdpfbflkaa.Pure
open Go.RowKit Go.Proofs.Ytjookjdpfbflkaa.PA Go.Proofs.YtjookjdpfbflkaaW.PrintWords Go.Proofs.YtjookjdpfbflkaaW.PrintLast Go.Proofs.YtjookjdpfbflkaaW.PrintMore
open Go.Proofs.Ytjookjdpfbflkaa.Bs Go.Proofs.Ytjookjdpfbflkaa.BTxt Go.Proofs.Ytjookjdpfbflkaa.RTxt
open Go.Proofs.Ytjookjdpfbflkaa.Tx (run st0 can)
set_option linter.unusedVariables false

theorem front_l0 (s : ByteArray) (h300 : s.size ≤ 300) (n : Int) (hn : n ≤ s.size) (hall : (run 12 (st0 s.size) (bytesOf s)).isSome = true) :
    ∀ (d k i : Nat) (ok : Bool) (t l m lo hi : Int), i + d = s.size → d + 4 ≤ k → Runs 12 s ok i t l m lo hi s.size →
      gantletlaw14_TextFront.l0 k s n ok (i : Int) t l m lo hi = some true := by
  intro d
  induction d with
  | zero =>
    intro k i ok t l m lo hi hi' hk h
    obtain ⟨k, rfl⟩ : ∃ m, k = m + 1 := ⟨k - 1, by omega⟩
    have hok : ok = true := by rw [h.ok_]; exact Tx.run_front 12 _ _ i hall
    rw [gantletlaw14_TextFront.l0, hok, if_pos rfl, if_neg (by omega)]
  | succ d ih =>
    intro k i ok t l m lo hi hi' hk h
    obtain ⟨k, rfl⟩ : ∃ m, k = m + 3 := ⟨k - 3, by omega⟩
    have hok : ok = true := by rw [h.ok_]; exact Tx.run_front 12 _ _ i hall
    subst hok
    rw [gantletlaw14_TextFront.l0, if_pos rfl]
    by_cases hin : (i : Int) < n
    · obtain ⟨ok', t', l', m', lo', hi'', hp, hr⟩ := h.push (by omega) ⟨by omega, by omega⟩ k
      rw [if_pos hin, if_pos (by omega), if_pos (by omega), hp]
      simp only [Option.bind_some]
      rw [w64 (x := (i : Int) + 1) (by omega) (by omega), show ((i : Int) + 1) = ((i + 1 : Nat) : Int) by omega]
      exact ih (k + 2) (i + 1) ok' t' l' m' lo' hi'' (by omega) (by omega) hr
    · rw [if_neg hin]
theorem j1_ok (s : ByteArray) (n : Int) (h300 : s.size ≤ 300) (k : Nat) (hk : 700 ≤ k) : gantletlaw14_TextFront.j1 k s n false = some true := by
  obtain ⟨k, rfl⟩ : ∃ m, k = m + 2 := ⟨k - 2, by omega⟩
  have t2 : gantletlaw14_TextFront.j2 (k + 1) s n true = some true := by rw [gantletlaw14_TextFront.j2, if_pos rfl]
  rw [gantletlaw14_TextFront.j1, if_neg (by decide), check_eq 12 s (by omega) (k + 1) (by omega)]
  simp only [Option.bind_some]
  cases hv : Tx.check 12 (bytesOf s) with
  | false => rw [if_neg (by decide), t2]
  | true =>
    rw [if_pos rfl]
    by_cases h1 : n < 0
    · rw [if_pos h1, t2]
    rw [if_neg h1]
    by_cases h2 : n > (s.size : Int)
    · rw [show decide (n > (s.size : Int)) = true by simpa using h2, t2]
    rw [show decide (n > (s.size : Int)) = false by simpa using h2, gantletlaw14_TextFront.j2, if_neg (by decide), BTxt.start_eq, if_neg (by omega)]
    simp only [enc, st0, Option.bind_some]
    have hall := Tx.run_check 12 _ (bytes_of s)
    rw [hv, bytesOf_length] at hall
    exact front_l0 s h300 n (by omega) hall s.size k 0 true 12 (s.size : Int) 0 0 0 (by omega) (by omega) (Runs.start 12 s _ 0 0)
theorem TextFront (s : ByteArray) (n : Int) (_ : s.size ≤ 140737488351232) (hn : (Lit.int .i64 n).wf = true) : ∃ k, gantletlaw14_TextFront.f k s n = some true := by
  refine ⟨3000, ?_⟩
  unfold gantletlaw14_TextFront.f
  rw [awake_ok 3000 (by decide)]
  simp only [Option.bind_some, if_true]
  by_cases h : (s.size : Int) > 300
  · rw [show decide ((s.size : Int) > 300) = true by simpa using h, gantletlaw14_TextFront.j0, if_pos rfl, awake_ok 2999 (by decide)]; rfl
  rw [show decide ((s.size : Int) > 300) = false by simpa using h, gantletlaw14_TextFront.j0, if_neg (by decide), check_eq 19 s (by omega) 2999 (by omega), check_eq 22 s (by omega) 2999 (by omega), check_eq 12 s (by omega) 2999 (by omega)]
  simp only [Option.bind_some]
  have j1 := j1_ok s n (by omega) 2999 (by omega)
  have c19 : Tx.check 19 (bytesOf s) = (bytesOf s).all (Tx.plain 19) := rfl
  have c22 : Tx.check 22 (bytesOf s) = (bytesOf s).all (Tx.plain 22) := rfl
  have c12 : Tx.check 12 (bytesOf s) = Tx.valid (bytesOf s).length (bytesOf s) := rfl
  have i1 : Tx.check 19 (bytesOf s) = true → Tx.check 22 (bytesOf s) = true := by
    rw [c19, c22, List.all_eq_true, List.all_eq_true]
    exact fun h b hb => Tx.printable_ia5 b (h b hb)
  have i2 : Tx.check 22 (bytesOf s) = true → Tx.check 12 (bytesOf s) = true := by
    rw [c22, c12]; exact Tx.ia5_valid _
  cases h1 : Tx.check 19 (bytesOf s) with
  | true =>
    rw [i1 h1, i2 (i1 h1)]
    simpa using j1
  | false =>
    cases h2 : Tx.check 22 (bytesOf s) with
    | true => rw [i2 h2]; simpa using j1
    | false => simpa using j1
end Go.Proofs.Ytjookjdpfbflkaa.Pure
