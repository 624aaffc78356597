/- What the row of a law over a list of structs of a number and a byte is handed: the list, and that it lies there. -/
import Derived.Test.YtpiejdncoeldeaaBas
import Derived.SizedLaws
import Derived.Deep.Strs
import Derived.Deep.SlicePairs
namespace Go.Proofs.Ytpiejdncoeldeaa.BRow
open Go.RowKit Go.Proofs.YtpiejdncoeldeaaW.PrintWords Go.Proofs.YtpiejdncoeldeaaW.PrintLast Go.Proofs.YtpiejdncoeldeaaW.PrintMore
open Go.ChangeShapes Go.WideShapes Go.Deep
set_option linter.unusedVariables false
structure SAct where
  f0 : Int
  f1 : Int
def zAct : SAct := ⟨0, 0⟩
def kAct : Kd SAct := Kd.iso (Kd.pair (Kd.int .i64) (Kd.int .u8)) (fun x : SAct => (x.f0, x.f1))
theorem kAct_open {w : World} {x : SAct} {cs : List Value} (h : kAct.K w x cs) : cs = [.int .i64 x.f0, .int .u8 x.f1] := by
  obtain ⟨_, _, rfl, rfl, rfl⟩ := h
  rfl
theorem kAct_mk (w : World) (x : SAct) : kAct.K w x [.int .i64 x.f0, .int .u8 x.f1] := ⟨[.int .i64 x.f0], [.int .u8 x.f1], rfl, rfl, rfl⟩
def rd_Act (xs : List SAct) (i : Int) : SAct := xs.getD i.toNat zAct
theorem at_Act {w : World} {A : Option Addr} {n : Nat} {xs : List SAct} (h : Kd.C kAct w A n xs) (i : Int) (h0 : 0 ≤ i) (h1 : i < n) : ∃ ad , A = some ad ∧ w.cell? (ad.add (i.toNat * 2)) = some (.int .i64 (rd_Act xs i).f0) ∧ w.cell? ⟨(ad.add (i.toNat * 2)).block, (ad.add (i.toNat * 2)).off + 1, none⟩ = some (.int .u8 (rd_Act xs i).f1) := by
  obtain ⟨ad, c, e, _, hK, hc0⟩ := Kd.C_get h zAct i h0 h1
  have hc : ∀ j u, c[j]? = some u → w.cell? (ad.add (i.toNat * 2 + j)) = some u := hc0
  obtain rfl := kAct_open hK
  exact ⟨ad, e, hc 0 _ rfl, by rw [← add_field _ _ 1 (by omega)]; exact hc 1 _ rfl⟩

section
variable {H : Type} {enc : TypeId × Value → H} {P : Program} {W : World} {base : Nat} {spare : Nat → Bool} {held : Bool} {t e : TypeId} {a : Option Addr} {len cap : Nat} {d : DataW H} {ps : List MemPlace} {ts : List TypeId} {ds : List (DataW H)} {j : Nat}
theorem acts_open {f0 f1 : Field} (hsz : (DataW.weightsEach P ts ds).all (· ≤ reachBytes) = true) (ht : ts[j]? = some t) (hd : ds[j]? = some d) (hu : P.underlying t = some (.slice e)) (he : P.underlying e = some (.struct #[f0, f1])) (ce : P.cellsOf e = 2) (o0 : f0.offset = 0) (o1 : f1.offset = 1) (c0 : P.cellsOf f0.type = 1) (c1 : P.cellsOf f1.type = 1)
    (h0 : P.underlying f0.type = some (.int .i64)) (h1 : P.underlying f1.type = some (.int .u8)) (hB : P.bytesOf e = 16)
    (h : DataW.Trod enc P W base spare held t (.slice a len cap) d ps) : ∃ l : List SAct, l.length = len ∧ Kd.C kAct W a l.length l ∧ l.length ≤ cap ∧ (l.length * 16 ≤ 140737488351232 ∧ ∀ a, a ∈ l → 0 ≤ a.f1 ∧ a.f1 < 256) := by
  obtain ⟨fuel, hf⟩ := h
  rcases open_slice_pairs hu he ce o0 o1 c0 c1 hf with ⟨hcs, _⟩ | ⟨x, l, c, m, n, V0, V1, D0, D1, P0, P1, hcs, _, hl, hm, hmm, hx, hcell⟩
  · simp [Value.cells] at hcs
    obtain ⟨rfl, rfl, rfl⟩ := hcs
    exact ⟨[], rfl, ⟨rfl, by decide, fun h => absurd h (by decide)⟩, Nat.le_refl _, by simp, fun a ha => by simp at ha⟩
  · simp [Value.cells] at hcs
    obtain ⟨rfl, rfl, rfl⟩ := hcs
    obtain ⟨hx, _⟩ := Prod.mk.inj hx
    subst hx
    have z := sized_slice hsz ht hd hu
    rw [hB] at z
    have hlm : len ≤ m := by rw [hmm]; split <;> omega
    have hcap : cap ≤ 9223372036854775807 := hm
    have each : ∀ i, i < m → ∃ q : SAct, V0 i = .int .i64 q.f0 ∧ V1 i = .int .u8 q.f1 ∧ 0 ≤ q.f1 ∧ q.f1 < 256 := fun i hi => by
      obtain ⟨_, _, t0, t1⟩ := hcell i hi
      obtain ⟨y, hy, _⟩ := DataW.trod_int h0 t0
      obtain ⟨s, hs, _, hw⟩ := DataW.trod_int h1 t1
      simp at hy hs
      have := Bs.wfu8 hw
      exact ⟨⟨y, s⟩, hy, hs, this.1, by show s < 256; omega⟩
    haveI : Inhabited SAct := ⟨zAct⟩
    obtain ⟨Sx, hS⟩ := choose_lt each
    refine ⟨(List.range len).map Sx, by simp, ⟨by simp, by simp; omega, fun _ => ⟨x, rfl, fun i p hi => ?_⟩⟩, by simpa using hl, ?_, fun a ha => ?_⟩
    · rw [List.getElem?_map] at hi
      obtain ⟨q, hq, rfl⟩ := Option.map_eq_some_iff.1 hi
      obtain ⟨hql, hqe⟩ := List.getElem?_eq_some_iff.1 hq
      rw [List.getElem_range] at hqe
      subst hqe
      rw [List.length_range] at hql
      refine ⟨[.int .i64 (Sx i).f0, .int .u8 (Sx i).f1], rfl, kAct_mk W (Sx i), fun k u hu2 => ?_⟩
      obtain ⟨q0, q1, _, _⟩ := hcell i (by omega)
      rw [(hS i (by omega)).1] at q0
      rw [(hS i (by omega)).2.1] at q1
      match k with
      | 0 => simp at hu2; subst hu2; exact q0
      | 1 => simp at hu2; subst hu2; exact q1
      | k + 2 => simp at hu2
    · simp at z ⊢
      exact Nat.le_trans (Nat.mul_le_mul_right _ (Nat.le_add_right _ _)) z
    · obtain ⟨i, hi, rfl⟩ := List.mem_map.1 ha
      exact (hS i (by have := List.mem_range.1 hi; omega)).2.2
end
end Go.Proofs.Ytpiejdncoeldeaa.BRow
