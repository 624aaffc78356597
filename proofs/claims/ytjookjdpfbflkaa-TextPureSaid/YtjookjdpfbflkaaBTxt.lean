/- What the printed functions of the texts' layer come to: the plain law's automaton. -/
import Derived.Test.YtjookjdpfbflkaaMTx2
import Derived.Test.YtjookjdpfbflkaaBs
import Derived.Test.YtjookjdpfbflkaaPAx1
namespace Go.Proofs.Ytjookjdpfbflkaa.BTxt
open Go.RowKit Go.Proofs.Ytjookjdpfbflkaa.PA Go.Proofs.YtjookjdpfbflkaaW.PrintWords Go.Proofs.YtjookjdpfbflkaaW.PrintLast Go.Proofs.YtjookjdpfbflkaaW.PrintMore
open Go.Proofs.Ytjookjdpfbflkaa.Bs
open Go.Proofs.Ytjookjdpfbflkaa.Tx (St first u8 stp run plain printable st0)
set_option linter.unusedVariables false

def enc (tag : Int) : Option St → Int × Int × Int × Int × Int × Bool
  | some s => (tag, s.1, s.2.1, s.2.2.1, s.2.2.2, true)
  | none => (0, 0, 0, 0, 0, false)
theorem start_eq (tag n : Int) : text_Start.f tag n = some (enc tag (if n < 0 then none else some (st0 n))) := by
  unfold text_Start.f
  split <;> rfl
theorem start_neg (tag n : Int) (h : n < 0) : text_Start.f tag n = some (0, 0, 0, 0, 0, false) := by rw [BTxt.start_eq, if_pos h]; rfl
theorem start_pos (tag n : Int) (h : ¬ n < 0) : text_Start.f tag n = some (tag, n, 0, 0, 0, true) := by rw [BTxt.start_eq, if_neg h]; rfl
theorem first_eq (k : Nat) (b : Int) : text_first.f (k + 1) b = some (match first b with
    | some (m, lo, hi) => (m, lo, hi, true)
    | none => (0, 0, 0, false)) := by
  unfold text_first.f first
  by_cases h1 : b < 128
  · rw [if_pos h1, if_pos h1]
  rw [if_neg h1, if_neg h1]
  by_cases h2 : b < 194
  · rw [if_pos h2, if_pos (.inl h2), text_first.j0, if_pos rfl]
  rw [if_neg h2]
  by_cases h3 : b > 244
  · rw [if_pos (.inr h3), show decide (b > 244) = true by simpa using h3, text_first.j0, if_pos rfl]
  rw [if_neg (by omega), show decide (b > 244) = false by simpa using h3, text_first.j0, if_neg (by decide)]
  split
  · rfl
  split
  · rfl
  split
  · rfl
  split
  · rfl
  split
  · rfl
  split
  · rfl
  · rfl
theorem first_range {b m lo hi : Int} (h : first b = some (m, lo, hi)) : 0 ≤ m ∧ m ≤ 3 := by
  unfold first at h
  repeat' (split at h)
  all_goals (first | (cases h; done) | (simp only [Option.some.injEq, Prod.mk.injEq] at h; omega))
theorem utf8_eq (k : Nat) (tag l m lo hi b : Int) (hm : 0 ≤ m ∧ m ≤ 3) : text_State_utf8.f (k + 1) tag (l - 1) m lo hi b = some (enc tag (u8 (l, m, lo, hi) b)) := by
  unfold text_State_utf8.f u8
  by_cases h : m > 0
  · rw [if_pos h, if_pos h]
    simp only
    by_cases h1 : b < lo
    · rw [if_pos h1, if_pos (.inl h1), text_State_utf8.j0, if_pos rfl]; rfl
    rw [if_neg h1]
    by_cases h2 : b > hi
    · rw [if_pos (.inr h2), show decide (b > hi) = true by simpa using h2, text_State_utf8.j0, if_pos rfl]; rfl
    · rw [if_neg (by omega), show decide (b > hi) = false by simpa using h2, text_State_utf8.j0, if_neg (by decide), w64 (x := m - 1) (by omega) (by omega)]; rfl
  · rw [if_neg h, if_neg h, first_eq]
    simp only [Option.bind_some]
    cases hf : first b with
    | none => rfl
    | some p =>
      obtain ⟨m', lo', hi'⟩ := p
      simp only [if_true]
      split <;> rfl
theorem index_printable (b : Int) (h0 : 0 ≤ b) (h1 : b < 256) : (decide (Lib.indexByte (⟨#[65, 66, 67, 68, 69, 70, 71, 72, 73, 74, 75, 76, 77, 78, 79, 80, 81, 82, 83, 84, 85, 86, 87, 88, 89, 90, 97, 98, 99, 100, 101, 102, 103, 104, 105, 106, 107, 108, 109, 110, 111, 112, 113, 114, 115, 116, 117, 118, 119, 120, 121, 122, 48, 49, 50, 51, 52, 53, 54, 55, 56, 57, 32, 39, 40, 41, 43, 44, 45, 46, 47, 58, 61, 63]⟩ : ByteArray).data.toList b.toNat.toUInt8 ≥ 0)) = printable b := by
  have : ∀ n : Nat, n < 256 → (decide (Lib.indexByte (⟨#[65, 66, 67, 68, 69, 70, 71, 72, 73, 74, 75, 76, 77, 78, 79, 80, 81, 82, 83, 84, 85, 86, 87, 88, 89, 90, 97, 98, 99, 100, 101, 102, 103, 104, 105, 106, 107, 108, 109, 110, 111, 112, 113, 114, 115, 116, 117, 118, 119, 120, 121, 122, 48, 49, 50, 51, 52, 53, 54, 55, 56, 57, 32, 39, 40, 41, 43, 44, 45, 46, 47, 58, 61, 63]⟩ : ByteArray).data.toList n.toUInt8 ≥ 0)) = printable (n : Int) := by decide +kernel
  have := this b.toNat (by omega)
  rwa [Int.toNat_of_nonneg h0] at this
/-- A state that the walk meets. -/
def Ok (s : St) : Prop := -9223372036854775808 < s.1 ∧ s.1 ≤ 9223372036854775807 ∧ 0 ≤ s.2.1 ∧ s.2.1 ≤ 3
theorem push_eq (k : Nat) (tag : Int) (s : St) (b : Int) (hs : Ok s) (h0 : 0 ≤ b) (h1 : b < 256) : text_State_Push.f (k + 2) tag s.1 s.2.1 s.2.2.1 s.2.2.2 b = some (enc tag (stp tag s b)) := by
  obtain ⟨l, m, lo, hi⟩ := s
  obtain ⟨g1, g2, g3, g4⟩ := hs
  simp only at g1 g2 g3 g4
  unfold text_State_Push.f stp
  simp only
  rw [w64 (x := l - 1) (by omega) (by omega)]
  by_cases h12 : tag = 12
  · rw [if_pos h12, if_pos h12, utf8_eq (k + 1) tag l m lo hi b ⟨g3, g4⟩]
    simp only [Option.bind_some]
  rw [if_neg h12, if_neg h12]
  by_cases h19 : tag = 19
  · rw [if_pos h19]
    unfold strings_IndexByte.f
    simp only [Option.bind_some]
    have := index_printable b h0 h1
    have hp : plain tag b = printable b := by unfold plain; rw [if_neg (by omega), if_pos h19]
    rw [hp, ← this]
    by_cases hi : Lib.indexByte (⟨#[65, 66, 67, 68, 69, 70, 71, 72, 73, 74, 75, 76, 77, 78, 79, 80, 81, 82, 83, 84, 85, 86, 87, 88, 89, 90, 97, 98, 99, 100, 101, 102, 103, 104, 105, 106, 107, 108, 109, 110, 111, 112, 113, 114, 115, 116, 117, 118, 119, 120, 121, 122, 48, 49, 50, 51, 52, 53, 54, 55, 56, 57, 32, 39, 40, 41, 43, 44, 45, 46, 47, 58, 61, 63]⟩ : ByteArray).data.toList b.toNat.toUInt8 ≥ 0
    · rw [if_pos hi, if_pos (by simpa using hi)]; rfl
    · rw [if_neg hi, if_neg (by simpa using hi)]; rfl
  rw [if_neg h19]
  by_cases h22 : tag = 22
  · have hp : plain tag b = decide (b < 128) := by unfold plain; rw [if_pos h22]
    rw [if_pos h22, hp]
    by_cases hb : b < 128
    · rw [if_pos hb, if_pos (by simpa using hb)]; rfl
    · rw [if_neg hb, if_neg (by simpa using hb)]; rfl
  · have hp : plain tag b = true := by unfold plain; rw [if_neg h22, if_neg h19]
    rw [if_neg h22, hp, if_pos rfl]; rfl
theorem stp_ok {tag : Int} {s s' : St} {b : Int} (h : stp tag s b = some s') (hm : 0 ≤ s.2.1 ∧ s.2.1 ≤ 3) : s'.1 = s.1 - 1 ∧ 0 ≤ s'.2.1 ∧ s'.2.1 ≤ 3 := by
  unfold stp at h
  split at h
  · unfold u8 at h
    split at h
    · split at h
      · cases h
      · cases h; exact ⟨rfl, by simp only; omega, by simp only; omega⟩
    · split at h
      · cases h
      · rename_i m lo hi hf
        have := first_range hf
        split at h
        · cases h
        · cases h; exact ⟨rfl, this.1, this.2⟩
  · split at h
    · cases h; exact ⟨rfl, hm.1, hm.2⟩
    · cases h
/-- The state behind some bytes, whatever it is. -/
structure Runs (tag : Int) (s : ByteArray) (ok : Bool) (i : Nat) (t l m lo hi : Int) (N : Int) : Prop where
  ok_ : ok = (run tag (st0 N) ((bytesOf s).take i)).isSome
  st_ : ok = true → t = tag ∧ run tag (st0 N) ((bytesOf s).take i) = some (l, m, lo, hi) ∧ l = N - i ∧ 0 ≤ m ∧ m ≤ 3
theorem Runs.start (tag : Int) (s : ByteArray) (N : Int) (lo hi : Int) : Runs tag s true 0 tag N 0 0 0 N := ⟨rfl, fun _ => ⟨rfl, rfl, by omega, by omega, by omega⟩⟩
theorem take_snoc (s : ByteArray) (i : Nat) (h : i < s.size) : (bytesOf s).take (i + 1) = (bytesOf s).take i ++ [bt s (i : Int)] := by
  have hl : i < (bytesOf s).length := by rw [bytesOf_length]; exact h
  rw [List.take_succ_eq_append_getElem hl, bt_get, Int.toNat_natCast, List.getD_eq_getElem?_getD, List.getElem?_eq_getElem hl]; rfl
theorem Runs.push {tag : Int} {s : ByteArray} {i : Nat} {t l m lo hi N : Int} (h : Runs tag s true i t l m lo hi N) (hi' : i < s.size) (hN : -9223372036854775808 < N - s.size ∧ N ≤ 9223372036854775807) (k : Nat) :
    ∃ ok' t' l' m' lo' hi', text_State_Push.f (k + 2) t l m lo hi (bt s (i : Int)) = some (t', l', m', lo', hi', ok') ∧ Runs tag s ok' (i + 1) t' l' m' lo' hi' N := by
  obtain ⟨rfl, hr, hl, h0, h3⟩ := h.st_ rfl
  have hb := bt_range s (i : Int)
  have hp := push_eq k t (l, m, lo, hi) (bt s (i : Int)) ⟨by simp only; omega, by simp only; omega, h0, h3⟩ (by omega) (by omega)
  have hrun : run t (st0 N) ((bytesOf s).take (i + 1)) = stp t (l, m, lo, hi) (bt s (i : Int)) := by
    rw [take_snoc s i hi', Tx.run_append, hr]
    simp only [Option.bind_some, run]
    cases stp t (l, m, lo, hi) (bt s (i : Int)) <;> rfl
  cases hs : stp t (l, m, lo, hi) (bt s (i : Int)) with
  | none =>
    rw [hs] at hp hrun
    exact ⟨false, 0, 0, 0, 0, 0, hp, ⟨by rw [hrun]; rfl, fun h => by cases h⟩⟩
  | some s' =>
    have ho := stp_ok hs ⟨h0, h3⟩
    rw [hs] at hp hrun
    obtain ⟨l', m', lo', hi'⟩ := s'
    simp only at ho
    exact ⟨true, t, l', m', lo', hi', hp, ⟨by rw [hrun]; rfl, fun _ => ⟨rfl, hrun, by omega, ho.2⟩⟩⟩
theorem run_none_more (tag : Int) (s0 : St) (l : List Int) (i : Nat) (h : (run tag s0 (l.take i)).isSome = false) : (run tag s0 l).isSome = false := by
  cases hr : (run tag s0 l).isSome with
  | false => rfl
  | true => rw [Tx.run_front tag s0 l i hr] at h; cases h
theorem check_l0 (tag : Int) (s : ByteArray) (hs : s.size ≤ 140737488351232) (N : Int) (hN : -9223372036854775808 < N - s.size ∧ N ≤ 9223372036854775807) :
    ∀ (d k i : Nat) (ok : Bool) (t l m lo hi : Int), i + d = s.size → d + 4 ≤ k → Runs tag s ok i t l m lo hi N →
      text_Check.l0 k s ok (i : Int) t l m lo hi = some (run tag (st0 N) (bytesOf s)).isSome := by
  intro d
  induction d with
  | zero =>
    intro k i ok t l m lo hi hi' hk h
    obtain ⟨k, rfl⟩ : ∃ m, k = m + 1 := ⟨k - 1, by omega⟩
    have hok := h.ok_
    rw [List.take_of_length_le (by rw [bytesOf_length]; omega)] at hok
    rw [text_Check.l0, ← hok]
    cases ok with
    | true => rw [if_pos rfl, if_neg (by omega)]
    | false => rw [if_neg (by decide)]
  | succ d ih =>
    intro k i ok t l m lo hi hi' hk h
    obtain ⟨k, rfl⟩ : ∃ m, k = m + 3 := ⟨k - 3, by omega⟩
    rw [text_Check.l0]
    cases ok with
    | false =>
      rw [if_neg (by decide), run_none_more tag _ _ i h.ok_.symm]
    | true =>
      obtain ⟨ok', t', l', m', lo', hi'', hp, hr⟩ := h.push (by omega) hN k
      rw [if_pos rfl, if_pos (by omega), if_pos (by omega), hp]
      simp only [Option.bind_some]
      rw [w64 (x := (i : Int) + 1) (by omega) (by omega), show ((i : Int) + 1) = ((i + 1 : Nat) : Int) by omega]
      exact ih (k + 2) (i + 1) ok' t' l' m' lo' hi'' (by omega) (by omega) hr
theorem check_eq (tag : Int) (s : ByteArray) (hs : s.size ≤ 140737488351232) (k : Nat) (hk : s.size + 4 ≤ k) : text_Check.f k tag s = some (Tx.check tag (bytesOf s)) := by
  unfold text_Check.f
  rw [start_eq, if_neg (by omega)]
  simp only [enc, st0, Option.bind_some]
  have h := check_l0 tag s hs (s.size : Int) (by omega) s.size k 0 true tag (s.size : Int) 0 0 0 (by omega) (by omega) (Runs.start tag s _ 0 0)
  rw [← Tx.run_check tag _ (bytes_of s), bytesOf_length]
  exact h
end Go.Proofs.Ytjookjdpfbflkaa.BTxt
