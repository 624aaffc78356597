/- What the row of a law over lists of texts, and of structs of a number and a text, is handed: the lists, and that they lie there. -/
import Derived.Test.YtidcmkmlcmjekaaPAx0
import Derived.SizedLaws
import Derived.Deep.Strs
import Derived.Deep.SlicePairs
namespace Go.Proofs.Ytidcmkmlcmjekaa.BRow
open Go.RowKit Go.Proofs.Ytidcmkmlcmjekaa.PA Go.Proofs.YtidcmkmlcmjekaaW.PrintWords Go.Proofs.YtidcmkmlcmjekaaW.PrintLast Go.Proofs.YtidcmkmlcmjekaaW.PrintMore
open Go.ChangeShapes Go.WideShapes Go.Deep
set_option linter.unusedVariables false
section
variable {H : Type} {enc : TypeId × Value → H} {P : Program} {W : World} {base : Nat} {spare : Nat → Bool} {held : Bool} {t e : TypeId} {a : Option Addr} {len cap : Nat} {d : DataW H} {ps : List MemPlace} {ts : List TypeId} {ds : List (DataW H)} {j : Nat}
theorem strs_open (hsz : (DataW.weightsEach P ts ds).all (· ≤ reachBytes) = true) (ht : ts[j]? = some t) (hd : ds[j]? = some d) (hu : P.underlying t = some (.slice e)) (he : P.underlying e = some .string) (hc : P.cellsOf e = 1) (hB : P.bytesOf e = 16)
    (h : DataW.Trod enc P W base spare held t (.slice a len cap) d ps) : ∃ l : List ByteArray, l.length = len ∧ Kd.C Kd.string W a l.length l ∧ l.length ≤ cap ∧ l.length * 16 ≤ 140737488351232 := by
  obtain ⟨fuel, hf⟩ := h
  rcases open_strs hu he hc hf with ⟨hcs, _⟩ | ⟨x, l, c, m, Sx, hcs, _, hl, hm, hmm, hx, hcell⟩
  · simp [Value.cells] at hcs
    obtain ⟨rfl, rfl, rfl⟩ := hcs
    exact ⟨[], rfl, ⟨rfl, by decide, fun h => absurd h (by decide)⟩, Nat.le_refl _, by simp⟩
  · simp [Value.cells] at hcs
    obtain ⟨rfl, rfl, rfl⟩ := hcs
    obtain ⟨hx, _⟩ := Prod.mk.inj hx
    subst hx
    have z := sized_slice hsz ht hd hu
    rw [hB] at z
    have hlm : len ≤ m := by rw [hmm]; split <;> omega
    have hcap : cap ≤ 9223372036854775807 := hm
    refine ⟨(List.range len).map Sx, by simp, ⟨by simp, by simp; omega, fun _ => ⟨x, rfl, fun i p hi => ?_⟩⟩, by simpa using hl, ?_⟩
    · rw [List.getElem?_map] at hi
      obtain ⟨q, hq, rfl⟩ := Option.map_eq_some_iff.1 hi
      obtain ⟨hql, hqe⟩ := List.getElem?_eq_some_iff.1 hq
      rw [List.getElem_range] at hqe
      subst hqe
      rw [List.length_range] at hql
      refine ⟨[.string (Sx i)], rfl, rfl, fun k u hu2 => ?_⟩
      cases k with
      | zero =>
        simp at hu2
        subst hu2
        have := (hcell i (by omega)).1
        show W.cell? (x.add (i * 1 + 0)) = _
        simpa using this
      | succ k => simp at hu2
    · simp at z ⊢
      exact Nat.le_trans (Nat.mul_le_mul_right _ (Nat.le_add_right _ _)) z
theorem acts_open {f0 f1 : Field} (hsz : (DataW.weightsEach P ts ds).all (· ≤ reachBytes) = true) (ht : ts[j]? = some t) (hd : ds[j]? = some d) (hu : P.underlying t = some (.slice e)) (he : P.underlying e = some (.struct #[f0, f1])) (ce : P.cellsOf e = 2) (o0 : f0.offset = 0) (o1 : f1.offset = 1) (c0 : P.cellsOf f0.type = 1) (c1 : P.cellsOf f1.type = 1)
    (h0 : P.underlying f0.type = some (.int .i64)) (h1 : P.underlying f1.type = some .string) (hB : P.bytesOf e = 24)
    (h : DataW.Trod enc P W base spare held t (.slice a len cap) d ps) : ∃ l : List S37, l.length = len ∧ Kd.C k37 W a l.length l ∧ l.length ≤ cap ∧ l.length * 24 ≤ 140737488351232 := by
  obtain ⟨fuel, hf⟩ := h
  rcases open_slice_pairs hu he ce o0 o1 c0 c1 hf with ⟨hcs, _⟩ | ⟨x, l, c, m, n, V0, V1, D0, D1, P0, P1, hcs, _, hl, hm, hmm, hx, hcell⟩
  · simp [Value.cells] at hcs
    obtain ⟨rfl, rfl, rfl⟩ := hcs
    exact ⟨[], rfl, ⟨rfl, by decide, fun h => absurd h (by decide)⟩, Nat.le_refl _, by simp⟩
  · simp [Value.cells] at hcs
    obtain ⟨rfl, rfl, rfl⟩ := hcs
    obtain ⟨hx, _⟩ := Prod.mk.inj hx
    subst hx
    have z := sized_slice hsz ht hd hu
    rw [hB] at z
    have hlm : len ≤ m := by rw [hmm]; split <;> omega
    have hcap : cap ≤ 9223372036854775807 := hm
    have each : ∀ i, i < m → ∃ q : S37, V0 i = .int .i64 q.f0 ∧ V1 i = .string q.f1 := fun i hi => by
      obtain ⟨_, _, t0, t1⟩ := hcell i hi
      obtain ⟨y, hy, _⟩ := DataW.trod_int h0 t0
      obtain ⟨s, hs, _⟩ := DataW.trod_string h1 t1
      simp at hy hs
      exact ⟨⟨y, s⟩, hy, hs⟩
    haveI : Inhabited S37 := ⟨z37⟩
    obtain ⟨Sx, hS⟩ := choose_lt each
    refine ⟨(List.range len).map Sx, by simp, ⟨by simp, by simp; omega, fun _ => ⟨x, rfl, fun i p hi => ?_⟩⟩, by simpa using hl, ?_⟩
    · rw [List.getElem?_map] at hi
      obtain ⟨q, hq, rfl⟩ := Option.map_eq_some_iff.1 hi
      obtain ⟨hql, hqe⟩ := List.getElem?_eq_some_iff.1 hq
      rw [List.getElem_range] at hqe
      subst hqe
      rw [List.length_range] at hql
      refine ⟨[.int .i64 (Sx i).f0, .string (Sx i).f1], rfl, k37_mk W (Sx i), fun k u hu2 => ?_⟩
      obtain ⟨q0, q1, _, _⟩ := hcell i (by omega)
      rw [(hS i (by omega)).1] at q0
      rw [(hS i (by omega)).2] at q1
      match k with
      | 0 => simp at hu2; subst hu2; exact q0
      | 1 => simp at hu2; subst hu2; exact q1
      | k + 2 => simp at hu2
    · simp at z ⊢
      exact Nat.le_trans (Nat.mul_le_mul_right _ (Nat.le_add_right _ _)) z
end
end Go.Proofs.Ytidcmkmlcmjekaa.BRow
