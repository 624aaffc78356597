/- Plain law of heads: what a head's bytes are, and what bytes are read as. No program in sight. -/
import Derived.Test.YtomaajagncjiiaaMLen
namespace Go.Proofs.Ytomaajagncjiiaa.Hdm
open Go.Proofs.Ytomaajagncjiiaa.Idm Go.Proofs.Ytomaajagncjiiaa.Lenm
set_option linter.unusedVariables false

def hdenc (c t : Int) (cons : Bool) (n : Int) : List Int := enc c t cons ++ lenc n
/-- A head that can be put. -/
def Whole (c t n : Int) : Prop := Valid c t ∧ 0 ≤ n ∧ n ≤ MaxLen
/-- (class, tag, form, length, place, error) -/
def hg (l : List Int) : Int × Int × Bool × Int × Nat × Int :=
  if (idg l).2.2.2.2 = 0 then
    (if (lg (l.drop (idg l).2.2.2.1)).2.2 = 0 then ((idg l).1, (idg l).2.1, (idg l).2.2.1, (lg (l.drop (idg l).2.2.2.1)).1, (idg l).2.2.2.1 + (lg (l.drop (idg l).2.2.2.1)).2.1, 0)
     else (0, 0, false, 0, (idg l).2.2.2.1 + (lg (l.drop (idg l).2.2.2.1)).2.1, (lg (l.drop (idg l).2.2.2.1)).2.2))
  else (0, 0, false, 0, (idg l).2.2.2.1, (idg l).2.2.2.2)

theorem hdenc_len {c t n : Int} (cons : Bool) (h : Whole c t n) : (hdenc c t cons n).length = (enc c t cons).length + (lenc n).length ∧ 2 ≤ (hdenc c t cons n).length ∧ (hdenc c t cons n).length ≤ 14 := by
  have h1 := enc_len c t cons
  have h2 := lenc_len n h.2.1 h.2.2
  unfold hdenc
  rw [List.length_append]
  omega
theorem hdenc_bytes {c t n : Int} {cons : Bool} (h : Whole c t n) : Bytes (hdenc c t cons n) := by
  intro b hb
  rcases List.mem_append.1 hb with hb | hb
  · exact enc_bytes h.1 b hb
  · exact lenc_bytes n h.2.1 h.2.2 b hb
theorem hg_enc {c t n : Int} (cons : Bool) (h : Whole c t n) (r : List Int) : hg (hdenc c t cons n ++ r) = (c, t, cons, n, (hdenc c t cons n).length, 0) := by
  unfold hg
  have e1 : idg (hdenc c t cons n ++ r) = (c, t, cons, (enc c t cons).length, 0) := by
    unfold hdenc
    rw [List.append_assoc, idg_enc cons h.1]
  have e2 : (hdenc c t cons n ++ r).drop (enc c t cons).length = lenc n ++ r := by
    unfold hdenc
    rw [List.append_assoc, List.drop_left]
  rw [e1]
  simp only [e2, lg_lenc n h.2.1 h.2.2 r, if_true]
  unfold hdenc
  rw [List.length_append]
theorem hg_enc0 {c t n : Int} (cons : Bool) (h : Whole c t n) : hg (hdenc c t cons n) = (c, t, cons, n, (hdenc c t cons n).length, 0) := by
  have := hg_enc cons h []
  rwa [List.append_nil] at this
theorem hg_cut {c t n : Int} (cons : Bool) (h : Whole c t n) (m : Nat) (hm : m < (hdenc c t cons n).length) : hg ((hdenc c t cons n).take m) = (0, 0, false, 0, m, 2) := by
  unfold hg
  rcases Nat.lt_or_ge m (enc c t cons).length with h1 | h1
  · have e : (hdenc c t cons n).take m = (enc c t cons).take m := by
      unfold hdenc
      rw [List.take_append_of_le_length (by omega)]
    rw [e, idg_cut cons h.1 m h1]
    simp
  · have e : (hdenc c t cons n).take m = enc c t cons ++ (lenc n).take (m - (enc c t cons).length) := by
      unfold hdenc
      rw [List.take_append, List.take_of_length_le (by omega)]
    have hl : m - (enc c t cons).length < (lenc n).length := by
      have := (hdenc_len cons h).1; omega
    rw [e, idg_enc cons h.1]
    simp only [List.drop_left, lg_cut n h.2.1 h.2.2 _ hl]
    simp; omega
theorem hg_back (l : List Int) (c t : Int) (cons : Bool) (n : Int) (p : Nat) (hb : Bytes l) (h : hg l = (c, t, cons, n, p, 0)) :
    Whole c t n ∧ 2 ≤ p ∧ p ≤ l.length ∧ hdenc c t cons n = l.take p := by
  unfold hg at h
  split at h
  · rename_i h1
    split at h
    · rename_i h2
      simp only [Prod.mk.injEq, and_true] at h
      obtain ⟨rfl, rfl, rfl, rfl, rfl⟩ := h
      obtain ⟨v, a1, a2, a3⟩ := idg_back l (idg l).1 (idg l).2.1 (idg l).2.2.1 (idg l).2.2.2.1 hb (Prod.ext rfl (Prod.ext rfl (Prod.ext rfl (Prod.ext rfl h1))) : idg l = ((idg l).1, (idg l).2.1, (idg l).2.2.1, (idg l).2.2.2.1, 0))
      obtain ⟨b1, b2, b3, b4, b5⟩ := lg_back (l.drop (idg l).2.2.2.1) (fun x hx => hb x (List.mem_of_mem_drop hx)) (lg (l.drop (idg l).2.2.2.1)).1 (lg (l.drop (idg l).2.2.2.1)).2.1 (Prod.ext rfl (Prod.ext rfl h2))
      rw [List.length_drop] at b4
      refine ⟨⟨v, b1, b2⟩, by omega, by omega, ?_⟩
      unfold hdenc
      rw [a3, b5, List.take_add]
    · rename_i h2
      simp only [Prod.mk.injEq] at h
      exact absurd h.2.2.2.2.2 h2
  · rename_i h1
    simp only [Prod.mk.injEq] at h
    exact absurd h.2.2.2.2.2 h1
theorem hg_err (l : List Int) (h : (hg l).2.2.2.2.2 ≠ 0) : (hg l).1 = 0 ∧ (hg l).2.1 = 0 ∧ (hg l).2.2.1 = false ∧ (hg l).2.2.2.1 = 0 ∧ (hg l).2.2.2.2.1 ≤ l.length := by
  have h3 := idg_err l
  unfold hg at h ⊢
  split
  · rename_i h1
    rw [if_pos h1] at h
    split
    · rename_i h2
      rw [if_pos h2] at h
      exact absurd rfl h
    · rename_i h2
      have h4 := lg_err _ h2
      rw [List.length_drop] at h4
      refine ⟨rfl, rfl, rfl, rfl, ?_⟩
      have := h3.2.1
      simp only
      omega
  · refine ⟨rfl, rfl, rfl, rfl, h3.2.1⟩
/-- Of a head's bytes all but the length's stay, whatever the length. -/
theorem hdenc_front (c t : Int) (cons : Bool) (n : Int) : (hdenc c t cons n).take (enc c t cons).length = enc c t cons := by
  unfold hdenc
  rw [List.take_left]
end Go.Proofs.Ytomaajagncjiiaa.Hdm
