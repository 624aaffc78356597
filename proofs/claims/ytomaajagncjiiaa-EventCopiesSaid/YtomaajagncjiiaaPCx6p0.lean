-- Written by a program of this session (print2, a turned print): not PRINTED BY print.sh
import Derived.Test.YtomaajagncjiiaaPCx0
import Derived.Test.YtomaajagncjiiaaPCx5
import Derived.Test.YtomaajagncjiiaaMHd
import Derived.Test.YtomaajagncjiiaaMMx
namespace Go.Proofs.Ytomaajagncjiiaa.PC
open Go.RowKit Go.Proofs.YtomaajagncjiiaaW.PrintWords Go.Proofs.YtomaajagncjiiaaW.PrintLast Go.Proofs.YtomaajagncjiiaaW.PrintMore
attribute [local go_sem] max2_int min2_int max_two min_two max_three min_three max_four min_four   -- for this text's walks alone
set_option linter.unusedVariables false
set_option linter.unusedSimpArgs false


/-! ### event_Whole: function 13 -/
open Go.Proofs.Ytomaajagncjiiaa.Own
/-- The stack's state: what is left of each, the innermost first. -/
def Sk (w : World) (S : Nat → Prop) (g : Nat) (most : Nat) (left : List Int) : Prop :=
  S g ∧ ∃ cs : Array Value, w.heap[g]? = some (.cells cs 70 (0, 0)) ∧ (cs.size = 66 ∧ cs.all (·.oneCell') = true) ∧ (∀ (i : Nat) x, left.reverse[i]? = some x → cs[i]? = some (.int .i64 x)) ∧
    cs[64]? = some (.int .i64 (left.length : Int)) ∧ cs[65]? = some (.int .i64 (most : Int)) ∧ left.length ≤ most ∧ most ≤ 64 ∧ ∀ x, x ∈ left → 0 ≤ x ∧ x ≤ 4611686018427387904
theorem Sk.upd {w W : World} {S T : Nat → Prop} {g : Nat} {most : Nat} {left : List Int} (h : Sk w S g most left) (hu : Upd T w W) (hd : ∀ k, S k → ¬ T k) : Sk W S g most left := by
  obtain ⟨hg, cs, hb, hr⟩ := h
  exact ⟨hg, cs, hu.blk hb (hd g hg), hr⟩
theorem Sk.mono {w : World} {S S' : Nat → Prop} {g : Nat} {most : Nat} {left : List Int} (h : Sk w S g most left) (hs : ∀ k, S k → S' k) : Sk w S' g most left := by
  obtain ⟨hg, hr⟩ := h
  exact ⟨hs g hg, hr⟩
theorem Sk.old {w : World} {S : Nat → Prop} {g : Nat} {most : Nat} {left : List Int} (h : Sk w S g most left) : Sk w (fun k => S k ∧ k < w.heap.size) g most left := by
  obtain ⟨hg, cs, hb, hr⟩ := h
  exact ⟨⟨hg, blk_lt hb⟩, cs, hb, hr⟩
theorem Sk.bnd {w : World} {S : Nat → Prop} {g : Nat} {most : Nat} {left : List Int} (h : Sk w S g most left) : Sk w (Bnd w [70] S) g most left := by
  obtain ⟨hg, cs, hb, hr⟩ := h
  exact ⟨Bnd.blk hg hb (by decide), cs, hb, hr⟩
theorem Sk.drew {w : World} {S : Nat → Prop} {g : Nat} {most : Nat} {left : List Int} (h : Sk w S g most left) : Sk w.drew S g most left := h.upd (Upd.drew (Upd.refl None0 w)) (fun _ _ h => h)
theorem Sk.drewN {w : World} {S : Nat → Prop} {g : Nat} {most : Nat} {left : List Int} (h : Sk w S g most left) (n : Nat) : Sk (w.drewN n) S g most left := h.upd (Upd.drewN (Upd.refl None0 w) n) (fun _ _ h => h)
theorem Sk.alloc {w : World} {S : Nat → Prop} {g : Nat} {most : Nat} {left : List Int} (h : Sk w S g most left) (o : Obj) : Sk (w.alloc o) S g most left := h.upd (Upd.alloc (Upd.refl None0 w) o) (fun _ _ h => h)
theorem Sk.updN {w W : World} {S : Nat → Prop} {g : Nat} {most : Nat} {left : List Int} (h : Sk w S g most left) (hu : Upd None0 w W) : Sk W S g most left := h.upd hu (fun _ _ h => h)
theorem Sk.updT {w W : World} {S : Nat → Prop} {g : Nat} {most : Nat} {left : List Int} (h : Sk w S g most left) {g' t : Nat} {cs : Array Value} (hb : w.heap[g']? = some (.cells cs t (0, 0))) (ht : ∀ q, q ∈ [70] → q ≠ t) (hu : Upd (fun k => k = g') w W) : Sk W S g most left := (h.bnd.upd hu (Bnd.ne_one hb ht)).mono Bnd.of
theorem Sk.updR {w W : World} {S : Nat → Prop} {g : Nat} {most : Nat} {left : List Int} {T : Nat → Prop} {α : Type} {d : Kd α} {e : Nat} {v' : Value} {xs : List α} (h : Sk w S g most left) (hr : d.R e w 0 T v' xs) (ht : ∀ q, q ∈ [70] → q ≠ e) (hu : Upd (fun k => some k = v'.ownBlock) w W) : Sk W S g most left := (h.bnd.upd hu (Bnd.ne_row hr ht)).mono Bnd.of
theorem Sk.updB {w W : World} {S : Nat → Prop} {g : Nat} {most : Nat} {left : List Int} {T : Nat → Prop} {E' : List Nat} (h : Sk w S g most left) (hu : Upd (Bnd w E' T) w W) (hE : ∀ q, q ∈ [70] → q ∉ E') : Sk W S g most left := (h.bnd.upd hu (fun k h1 h2 => bnd_apart hE h1 h2)).mono Bnd.of
theorem Sk.setT {w : World} {S : Nat → Prop} {g : Nat} {most : Nat} {left : List Int} (h : Sk w S g most left) {g' t : Nat} (hb : BlkT w g' t) (ht : ∀ q, q ∈ [70] → q ≠ t) (i : Nat) (u : Value) : Sk (w.setCell ⟨g', i, none⟩ u) S g most left := by
  obtain ⟨cs, hb⟩ := hb
  exact h.updT hb ht (by rw [setCell_eq_setRow w g' i cs t (0, 0) u hb]; exact upd_setRow _ _ _)
theorem all_put {cs : Array Value} (h : cs.all (·.oneCell') = true) {v : Value} (i : Nat) (hv : v.oneCell' = true) : (cs.setIfInBounds i v).all (·.oneCell') = true := by
  rw [Array.all_eq_true] at h ⊢
  intro j hj
  rw [Array.getElem_setIfInBounds]
  split
  · exact hv
  · exact h j (by simpa using hj)
theorem sk_at {cs : Array Value} {x : Int} {r : List Int} (h : ∀ (i : Nat) y, (x :: r).reverse[i]? = some y → cs[i]? = some (.int .i64 y)) : cs[r.length]? = some (.int .i64 x) :=
  h r.length x (by simp)
theorem sk_put {cs : Array Value} {x : Int} {r : List Int} (h : ∀ (i : Nat) y, (x :: r).reverse[i]? = some y → cs[i]? = some (.int .i64 y)) (n : Int) (hs : cs.size = 66) (hl : r.length < 64) :
    ∀ (i : Nat) y, (n :: r).reverse[i]? = some y → (cs.setIfInBounds r.length (.int .i64 n))[i]? = some (.int .i64 y) := by
  intro i y hy
  have hi : i < r.length + 1 := by have := (List.getElem?_eq_some_iff.1 hy).1; simpa using this
  rw [Array.getElem?_setIfInBounds]
  by_cases hir : r.length = i
  · subst hir
    rw [if_pos rfl, if_pos (by omega)]
    simp at hy
    rw [hy]
  · rw [if_neg hir]
    refine h i y ?_
    rw [List.reverse_cons, List.getElem?_append_left (by simp; omega)] at hy ⊢
    exact hy
theorem sk_push {cs : Array Value} {r : List Int} (h : ∀ (i : Nat) y, r.reverse[i]? = some y → cs[i]? = some (.int .i64 y)) (n : Int) (hs : cs.size = 66) (hl : r.length < 64) :
    ∀ (i : Nat) y, (n :: r).reverse[i]? = some y → (cs.setIfInBounds r.length (.int .i64 n))[i]? = some (.int .i64 y) := by
  intro i y hy
  have hi : i < r.length + 1 := by have := (List.getElem?_eq_some_iff.1 hy).1; simpa using this
  rw [Array.getElem?_setIfInBounds]
  by_cases hir : r.length = i
  · subst hir
    rw [if_pos rfl, if_pos (by omega)]
    simp at hy
    rw [hy]
  · rw [if_neg hir]
    refine h i y ?_
    rw [List.reverse_cons, List.getElem?_append_left (by simp; omega)] at hy
    exact hy
theorem sk_set {w : World} {S : Nat → Prop} {g i : Nat} {cs : Array Value} (hg : S g) (hb : w.heap[g]? = some (.cells cs 70 (0, 0))) (v : Value) : Upd S w (w.setCell ⟨g, i, none⟩ v) := by
  rw [setCell_eq_setRow w g i cs _ (0, 0) v hb]
  exact (upd_setRow w g _).mono (fun k hk => by rw [hk]; exact hg)
set_option maxHeartbeats 4000000 in
set_option maxRecDepth 100000 in
theorem stack_depth (g most : Nat) (left : List Int) (S : Nat → Prop) (w : World) (hS : Sk w S g most left) :
    Calls Try.prog 30 #[.pointer (some ⟨g, 0, none⟩)] w fun e w' => e = .returned (.int .i64 (left.length : Int)) ∧ w' = w := by
  obtain ⟨hg, cs, hb, ⟨hs, hoc⟩, hr, h64, h65, hlm, hm, hn⟩ := hS
  have hc : w.cell? ⟨g, 64, none⟩ = some (.int .i64 (left.length : Int)) := (blk_cell hb 64).trans h64
  clear hg hb hs hoc hr h64 h65 hlm hm hn
  go_enter Try.func30, Try.ntmps30
  go_wp2
  go_ret
  exact ⟨rfl, rfl⟩
set_option maxHeartbeats 4000000 in
set_option maxRecDepth 100000 in
theorem stack_left0 (g most : Nat) (S : Nat → Prop) (w : World) (hS : Sk w S g most []) :
    Calls Try.prog 42 #[.pointer (some ⟨g, 0, none⟩)] w fun e w' => e = .returned (.int .i64 (-1)) ∧ w' = w := by
  obtain ⟨hg, cs, hb, ⟨hs, hoc⟩, hr, h64, h65, hlm, hm, hn⟩ := hS
  have hc : w.cell? ⟨g, 64, none⟩ = some (.int .i64 0) := (blk_cell hb 64).trans h64
  clear hg hb hs hoc hr h64 h65 hlm hm hn
  go_enter Try.func42, Try.ntmps42
  go_wp2
  go_ret
  exact ⟨rfl, rfl⟩
set_option maxHeartbeats 4000000 in
set_option maxRecDepth 100000 in
theorem stack_left1 (g most : Nat) (x : Int) (r : List Int) (S : Nat → Prop) (w : World) (hS : Sk w S g most (x :: r)) :
    Calls Try.prog 42 #[.pointer (some ⟨g, 0, none⟩)] w fun e w' => e = .returned (.int .i64 x) ∧ w' = w.drew := by
  obtain ⟨hg, cs, hb, ⟨hs, hoc⟩, hr, h64, h65, hlm, hm, hn⟩ := hS
  obtain ⟨d, hd⟩ : ∃ d, d = r.length := ⟨_, rfl⟩
  have hc : w.cell? ⟨g, 64, none⟩ = some (.int .i64 ((d : Int) + 1)) := by rw [hd]; exact (blk_cell hb 64).trans (by rw [h64]; simp)
  have hx : w.cell? ⟨g, d, none⟩ = some (.int .i64 x) := by rw [hd]; exact (blk_cell hb _).trans (sk_at hr)
  have hl : d < 64 := by simp at hlm; omega
  have hl2 : (d : Int) < 64 := by omega
  have hd0 : (0 : Int) ≤ (d : Int) := by omega
  clear hg hb hs hoc hr h64 h65 hlm hm hn hd
  go_enter Try.func42, Try.ntmps42
  go_wp2
  go_region
  go_wp2
  go_ret
  exact ⟨rfl, rfl⟩
set_option maxHeartbeats 4000000 in
set_option maxRecDepth 100000 in
theorem stack_take0 (g most : Nat) (S : Nat → Prop) (w : World) (hS : Sk w S g most []) :
    Calls Try.prog 38 #[.pointer (some ⟨g, 0, none⟩)] w fun e w' => e = .returned (.int .i64 0) ∧ Sk w' S g most [] ∧ Upd S w w' := by
  have HS := Aside0.mk hS
  obtain ⟨hg, cs, hb, ⟨hs, hoc⟩, hr, h64, h65, hlm, hm, hn⟩ := hS
  have hc : w.cell? ⟨g, 64, none⟩ = some (.int .i64 0) := (blk_cell hb 64).trans h64
  clear hg hb hs hoc hr h64 h65 hlm hm hn
  go_enter Try.func38, Try.ntmps38
  go_wp2
  go_ret
  exact ⟨rfl, HS.out, Upd.refl _ _⟩
set_option maxHeartbeats 4000000 in
set_option maxRecDepth 100000 in
theorem stack_takeZ (g most : Nat) (r : List Int) (S : Nat → Prop) (w : World) (hS : Sk w S g most (0 :: r)) :
    Calls Try.prog 38 #[.pointer (some ⟨g, 0, none⟩)] w fun e w' => e = .returned (.int .i64 5) ∧ Sk w' S g most (0 :: r) ∧ Upd S w w' := by
  have HS := Aside0.mk hS
  obtain ⟨hg, cs, hb, ⟨hs, hoc⟩, hr, h64, h65, hlm, hm, hn⟩ := hS
  obtain ⟨d, hd⟩ : ∃ d, d = r.length := ⟨_, rfl⟩
  have hc : w.cell? ⟨g, 64, none⟩ = some (.int .i64 ((d : Int) + 1)) := by rw [hd]; exact (blk_cell hb 64).trans (by rw [h64]; simp)
  have hx : w.cell? ⟨g, d, none⟩ = some (.int .i64 0) := by rw [hd]; exact (blk_cell hb _).trans (sk_at hr)
  have hl : d < 64 := by simp at hlm; omega
  have hl2 : (d : Int) < 64 := by omega
  have hd0 : (0 : Int) ≤ (d : Int) := by omega
  have hdn : ((d : Int) + 1 == 0) = false := by rw [beq_eq_false_iff_ne]; omega
  clear hg hb hs hoc hr h64 h65 hlm hm hn hd
  go_enter Try.func38, Try.ntmps38
  go_wp2
  go_region
  go_wp2
  go_ret
  exact ⟨rfl, HS.out.drew, (Upd.refl _ _).drew⟩
set_option maxHeartbeats 4000000 in
set_option maxRecDepth 100000 in
theorem stack_take1 (g most : Nat) (x : Int) (r : List Int) (S : Nat → Prop) (w : World) (hS : Sk w S g most (x :: r)) (hx0 : x ≠ 0) :
    Calls Try.prog 38 #[.pointer (some ⟨g, 0, none⟩)] w fun e w' => e = .returned (.int .i64 0) ∧ Sk w' S g most ((x - 1) :: r) ∧ Upd S w w' := by
  obtain ⟨hg, cs, hb, ⟨hs, hoc⟩, hr, h64, h65, hlm, hm, hn⟩ := hS
  obtain ⟨d, hd⟩ : ∃ d, d = r.length := ⟨_, rfl⟩
  have hc : w.cell? ⟨g, 64, none⟩ = some (.int .i64 ((d : Int) + 1)) := by rw [hd]; exact (blk_cell hb 64).trans (by rw [h64]; simp)
  have hx : w.cell? ⟨g, d, none⟩ = some (.int .i64 x) := by rw [hd]; exact (blk_cell hb _).trans (sk_at hr)
  have hf : w.frozen? ⟨g, d, none⟩ = false := blk_frozen hb _
  have hl : d < 64 := by simp at hlm; omega
  have hl2 : (d : Int) < 64 := by omega
  have hd0 : (0 : Int) ≤ (d : Int) := by omega
  have hdn : ((d : Int) + 1 == 0) = false := by rw [beq_eq_false_iff_ne]; omega
  have hxb : (x == 0) = false := beq_eq_false_iff_ne.2 hx0
  have hxr := hn x (by simp)
  have hx1 : 0 ≤ x := hxr.1
  have hx2 : x ≤ 4611686018427387904 := hxr.2
  have K : Aside0 (∀ W, W = (w.drew.setCell ⟨g, d, none⟩ (.int .i64 (x - 1))).drew → Sk W S g most ((x - 1) :: r) ∧ Upd S w W) := ⟨by
    rintro W rfl
    refine ⟨⟨hg, cs.setIfInBounds d (.int .i64 (x - 1)), blk_set hb d _, ⟨by simpa using hs, all_put hoc _ rfl⟩, ?_, ?_, ?_, by simpa using hlm, hm, ?_⟩, ((Upd.refl S w).drew.setCell (.inl hg) _).drew⟩
    · rw [hd]; exact sk_put hr _ hs (by omega)
    · rw [Array.getElem?_setIfInBounds, if_neg (by omega), h64]; simp
    · rw [Array.getElem?_setIfInBounds, if_neg (by omega), h65]
    · intro y hy
      rcases List.mem_cons.1 hy with rfl | hy
      · omega
      · exact hn y (by simp [hy])⟩
  clear hg hb hs hoc hr h64 h65 hlm hm hn hd hx0 hxr
  go_enter Try.func38, Try.ntmps38
  go_wp2
  go_region
  go_wp2
  go_region
  go_wp2
  go_ret
  exact ⟨rfl, K.out _ rfl⟩
set_option maxHeartbeats 4000000 in
set_option maxRecDepth 100000 in
theorem stack_leave0 (g most : Nat) (S : Nat → Prop) (w : World) (hS : Sk w S g most []) :
    Calls Try.prog 29 #[.pointer (some ⟨g, 0, none⟩)] w fun e w' => e = .returned (.bool false) ∧ Sk w' S g most [] ∧ Upd S w w' := by
  have HS := Aside0.mk hS
  obtain ⟨hg, cs, hb, ⟨hs, hoc⟩, hr, h64, h65, hlm, hm, hn⟩ := hS
  have hc : w.cell? ⟨g, 64, none⟩ = some (.int .i64 0) := (blk_cell hb 64).trans h64
  clear hg hb hs hoc hr h64 h65 hlm hm hn
  go_enter Try.func29, Try.ntmps29
  go_wp2
  go_region
  go_wp2
  go_ret
  exact ⟨rfl, HS.out.drew, (Upd.refl _ _).drew⟩
set_option maxHeartbeats 4000000 in
set_option maxRecDepth 100000 in
theorem stack_leave1 (g most : Nat) (x : Int) (r : List Int) (S : Nat → Prop) (w : World) (hS : Sk w S g most (x :: r)) (hx0 : 0 < x) :
    Calls Try.prog 29 #[.pointer (some ⟨g, 0, none⟩)] w fun e w' => e = .returned (.bool false) ∧ Sk w' S g most (x :: r) ∧ Upd S w w' := by
  have HS := Aside0.mk hS
  obtain ⟨hg, cs, hb, ⟨hs, hoc⟩, hr, h64, h65, hlm, hm, hn⟩ := hS
  obtain ⟨d, hd⟩ : ∃ d, d = r.length := ⟨_, rfl⟩
  have hc : w.cell? ⟨g, 64, none⟩ = some (.int .i64 ((d : Int) + 1)) := by rw [hd]; exact (blk_cell hb 64).trans (by rw [h64]; simp)
  have hx : w.cell? ⟨g, d, none⟩ = some (.int .i64 x) := by rw [hd]; exact (blk_cell hb _).trans (sk_at hr)
  have hl : d < 64 := by simp at hlm; omega
  have hl2 : (d : Int) < 64 := by omega
  have hd0 : (0 : Int) ≤ (d : Int) := by omega
  have hdn : ((d : Int) + 1 == 0) = false := by rw [beq_eq_false_iff_ne]; omega
  have hxb : decide (0 < x) = true := decide_eq_true hx0
  clear hg hb hs hoc hr h64 h65 hlm hm hn hd hx0
  go_enter Try.func29, Try.ntmps29
  go_wp2
  go_region
  go_wp2
  go_ret
  exact ⟨rfl, HS.out.drew, (Upd.refl _ _).drew⟩
set_option maxHeartbeats 4000000 in
set_option maxRecDepth 100000 in
theorem stack_leaveZ (g most : Nat) (r : List Int) (S : Nat → Prop) (w : World) (hS : Sk w S g most (0 :: r)) :
    Calls Try.prog 29 #[.pointer (some ⟨g, 0, none⟩)] w fun e w' => e = .returned (.bool true) ∧ Sk w' S g most r ∧ Upd S w w' := by
  obtain ⟨hg, cs, hb, ⟨hs, hoc⟩, hr, h64, h65, hlm, hm, hn⟩ := hS
  obtain ⟨d, hd⟩ : ∃ d, d = r.length := ⟨_, rfl⟩
  have hc : w.cell? ⟨g, 64, none⟩ = some (.int .i64 ((d : Int) + 1)) := by rw [hd]; exact (blk_cell hb 64).trans (by rw [h64]; simp)
  have hf : w.frozen? ⟨g, 64, none⟩ = false := blk_frozen hb _
  have hx : w.cell? ⟨g, d, none⟩ = some (.int .i64 0) := by rw [hd]; exact (blk_cell hb _).trans (sk_at hr)
  have hl : d < 64 := by simp at hlm; omega
  have hl2 : (d : Int) < 64 := by omega
  have hd0 : (0 : Int) ≤ (d : Int) := by omega
  have hdn : ((d : Int) + 1 == 0) = false := by rw [beq_eq_false_iff_ne]; omega
  have K : Aside0 (∀ W, W = (w.setCell ⟨g, 64, none⟩ (.int .i64 (d : Int))).drew → Sk W S g most r ∧ Upd S w W) := ⟨by
    rintro W rfl
    refine ⟨⟨hg, cs.setIfInBounds 64 (.int .i64 (d : Int)), blk_set hb 64 _, ⟨by simpa using hs, all_put hoc _ rfl⟩, ?_, ?_, ?_, by simp at hlm; omega, hm, fun y hy => hn y (by simp [hy])⟩, (sk_set hg hb _).drew⟩
    · intro i y hy
      have hi : i < r.length := by have := (List.getElem?_eq_some_iff.1 hy).1; simpa using this
      rw [Array.getElem?_setIfInBounds, if_neg (by omega)]
      refine hr i y ?_
      rw [List.reverse_cons, List.getElem?_append_left (by simp; omega)]
      exact hy
    · rw [Array.getElem?_setIfInBounds, if_pos rfl, if_pos (by omega), hd]
    · rw [Array.getElem?_setIfInBounds, if_neg (by omega), h65]⟩
  clear hg hb hs hoc hr h64 h65 hlm hm hn hd
  go_enter Try.func29, Try.ntmps29
  go_wp2
  go_region
  go_wp2
  go_ret
  exact ⟨rfl, K.out _ rfl⟩
set_option maxHeartbeats 8000000 in
set_option maxRecDepth 100000 in
theorem stack_enter0 (g most : Nat) (n : Int) (S : Nat → Prop) (w : World) (hS : Sk w S g most []) (hn0 : 0 ≤ n) (hn1 : n ≤ 4611686018427387904) (hm0 : 0 < most) :
    Calls Try.prog 43 #[.pointer (some ⟨g, 0, none⟩), .int .i64 n] w fun e w' => e = .returned (.int .i64 0) ∧ Sk w' S g most [n] ∧ Upd S w w' := by
  obtain ⟨hg, cs, hb, ⟨hs, hoc⟩, hr, h64, h65, hlm, hm, hn⟩ := hS
  have hc : w.cell? ⟨g, 64, none⟩ = some (.int .i64 0) := (blk_cell hb 64).trans h64
  have hc5 : w.cell? ⟨g, 65, none⟩ = some (.int .i64 (most : Int)) := (blk_cell hb 65).trans h65
  have hc0 : ∃ v, w.cell? ⟨g, 0, none⟩ = some v := ⟨cs[0], by rw [blk_cell hb 0]; simp [hs]⟩
  obtain ⟨v0, hc0⟩ := hc0
  have hf : w.frozen? ⟨g, 64, none⟩ = false := blk_frozen hb _
  have hf0 : w.frozen? ⟨g, 0, none⟩ = false := blk_frozen hb _
  have hnn : decide (n < 0) = false := by simp; omega
  have hmm : ((0 : Int) == (most : Int)) = false := by rw [beq_eq_false_iff_ne]; omega
  have K : Aside0 (∀ W, W = ((w.setCell ⟨g, 0, none⟩ (.int .i64 n)).setCell ⟨g, 64, none⟩ (.int .i64 1)).drew.drew.drew → Sk W S g most [n] ∧ Upd S w W) := ⟨by
    rintro W rfl
    have hb1 := blk_set hb 0 (.int .i64 n)
    refine ⟨⟨hg, (cs.setIfInBounds 0 (.int .i64 n)).setIfInBounds 64 (.int .i64 1), blk_set hb1 64 _, ⟨by simpa using hs, all_put (all_put hoc _ rfl) _ rfl⟩, ?_, ?_, ?_, by simp; omega, hm, by simp; omega⟩, (((Upd.refl S w).setCell (.inl hg) _).setCell (.inl hg) _).drew.drew.drew⟩
    · intro i y hy
      have hi : i < 1 := by have := (List.getElem?_eq_some_iff.1 hy).1; simpa using this
      obtain rfl : i = 0 := by omega
      simp at hy
      subst hy
      rw [Array.getElem?_setIfInBounds, if_neg (by omega), Array.getElem?_setIfInBounds, if_pos rfl, if_pos (by omega)]
    · rw [Array.getElem?_setIfInBounds, if_pos rfl, if_pos (by simp; omega)]; rfl
    · rw [Array.getElem?_setIfInBounds, if_neg (by omega), Array.getElem?_setIfInBounds, if_neg (by omega), h65]⟩
  clear hg hb hs hoc hr h64 h65 hlm hm hn hn0 hn1 hm0
  go_enter Try.func43, Try.ntmps43
  go_wp2
  go_region
  go_wp2
  go_region
  go_wp2
  go_region
  go_wp2
  go_ret
  exact ⟨rfl, K.out _ rfl⟩
set_option maxHeartbeats 8000000 in
set_option maxRecDepth 100000 in
theorem stack_enterF (g most : Nat) (x n : Int) (r : List Int) (S : Nat → Prop) (w : World) (hS : Sk w S g most (x :: r)) (hn0 : 0 ≤ n) (hxn : x < n) :
    Calls Try.prog 43 #[.pointer (some ⟨g, 0, none⟩), .int .i64 n] w fun e w' => e = .returned (.int .i64 5) ∧ Sk w' S g most (x :: r) ∧ Upd S w w' := by
  have HS := Aside0.mk hS
  obtain ⟨hg, cs, hb, ⟨hs, hoc⟩, hr, h64, h65, hlm, hm, hn⟩ := hS
  obtain ⟨d, hd⟩ : ∃ d, d = r.length := ⟨_, rfl⟩
  have hc : w.cell? ⟨g, 64, none⟩ = some (.int .i64 ((d : Int) + 1)) := by rw [hd]; exact (blk_cell hb 64).trans (by rw [h64]; simp)
  have hc5 : w.cell? ⟨g, 65, none⟩ = some (.int .i64 (most : Int)) := (blk_cell hb 65).trans h65
  have hx : w.cell? ⟨g, d, none⟩ = some (.int .i64 x) := by rw [hd]; exact (blk_cell hb _).trans (sk_at hr)
  have hl : d < 64 := by simp at hlm; omega
  have hl2 : (d : Int) < 64 := by omega
  have hd0 : (0 : Int) ≤ (d : Int) := by omega
  have hdg : decide ((0 : Int) < (d : Int) + 1) = true := decide_eq_true (by omega)
  have hdn : ((d : Int) + 1 == 0) = false := by rw [beq_eq_false_iff_ne]; omega
  have hnn : decide (n < 0) = false := by simp; omega
  have hxx : decide (x < n) = true := decide_eq_true hxn
  clear hg hb hs hoc hr h64 h65 hlm hm hn hd hn0 hxn
  go_enter Try.func43, Try.ntmps43
  go_wp2
  go_region
  go_wp2
  go_ret
  exact ⟨rfl, HS.out.drew, (Upd.refl _ _).drew⟩
set_option maxHeartbeats 8000000 in
set_option maxRecDepth 100000 in
theorem stack_enterD (g most : Nat) (x n : Int) (r : List Int) (S : Nat → Prop) (w : World) (hS : Sk w S g most (x :: r)) (hn0 : 0 ≤ n) (hxn : n ≤ x) (hml : r.length + 1 = most) :
    Calls Try.prog 43 #[.pointer (some ⟨g, 0, none⟩), .int .i64 n] w fun e w' => e = .returned (.int .i64 10) ∧ Sk w' S g most (x :: r) ∧ Upd S w w' := by
  have HS := Aside0.mk hS
  obtain ⟨hg, cs, hb, ⟨hs, hoc⟩, hr, h64, h65, hlm, hm, hn⟩ := hS
  obtain ⟨d, hd⟩ : ∃ d, d = r.length := ⟨_, rfl⟩
  have hc : w.cell? ⟨g, 64, none⟩ = some (.int .i64 ((d : Int) + 1)) := by rw [hd]; exact (blk_cell hb 64).trans (by rw [h64]; simp)
  have hc5 : w.cell? ⟨g, 65, none⟩ = some (.int .i64 (most : Int)) := (blk_cell hb 65).trans h65
  have hx : w.cell? ⟨g, d, none⟩ = some (.int .i64 x) := by rw [hd]; exact (blk_cell hb _).trans (sk_at hr)
  have hl : d < 64 := by simp at hlm; omega
  have hl2 : (d : Int) < 64 := by omega
  have hd0 : (0 : Int) ≤ (d : Int) := by omega
  have hdg : decide ((0 : Int) < (d : Int) + 1) = true := decide_eq_true (by omega)
  have hdn : ((d : Int) + 1 == 0) = false := by rw [beq_eq_false_iff_ne]; omega
  have hnn : decide (n < 0) = false := by simp; omega
  have hxx : decide (x < n) = false := by simp; omega
  have hmm : ((d : Int) + 1 == (most : Int)) = true := by rw [beq_iff_eq]; omega
  clear hg hb hs hoc hr h64 h65 hlm hm hn hd hn0 hxn hml
  go_enter Try.func43, Try.ntmps43
  go_wp2
  go_region
  go_wp2
  go_region
  go_wp2
  go_ret
  exact ⟨rfl, HS.out.drew.drew, (Upd.refl _ _).drew.drew⟩
set_option maxHeartbeats 8000000 in
set_option maxRecDepth 100000 in
theorem stack_enterDz (g most : Nat) (n : Int) (S : Nat → Prop) (w : World) (hS : Sk w S g most []) (hn0 : 0 ≤ n) (hml : most = 0) :
    Calls Try.prog 43 #[.pointer (some ⟨g, 0, none⟩), .int .i64 n] w fun e w' => e = .returned (.int .i64 10) ∧ Sk w' S g most [] ∧ Upd S w w' := by
  have HS := Aside0.mk hS
  subst hml
  obtain ⟨hg, cs, hb, ⟨hs, hoc⟩, hr, h64, h65, hlm, hm, hn⟩ := hS
  have hc : w.cell? ⟨g, 64, none⟩ = some (.int .i64 0) := (blk_cell hb 64).trans h64
  have hc5 : w.cell? ⟨g, 65, none⟩ = some (.int .i64 0) := (blk_cell hb 65).trans h65
  have hnn : decide (n < 0) = false := by simp; omega
  clear hg hb hs hoc hr h64 h65 hlm hm hn hn0
  go_enter Try.func43, Try.ntmps43
  go_wp2
  go_region
  go_wp2
  go_region
  go_wp2
  go_ret
  exact ⟨rfl, HS.out.drew.drew, (Upd.refl _ _).drew.drew⟩
set_option maxHeartbeats 8000000 in
set_option maxRecDepth 100000 in
theorem stack_enter1 (g most : Nat) (x n : Int) (r : List Int) (S : Nat → Prop) (w : World) (hS : Sk w S g most (x :: r)) (hn0 : 0 ≤ n) (hxn : n ≤ x) (hml : r.length + 1 < most) :
    Calls Try.prog 43 #[.pointer (some ⟨g, 0, none⟩), .int .i64 n] w fun e w' => e = .returned (.int .i64 0) ∧ Sk w' S g most (n :: (x - n) :: r) ∧ Upd S w w' := by
  obtain ⟨hg, cs, hb, ⟨hs, hoc⟩, hr, h64, h65, hlm, hm, hn⟩ := hS
  obtain ⟨d, hd⟩ : ∃ d, d = r.length := ⟨_, rfl⟩
  have hc : w.cell? ⟨g, 64, none⟩ = some (.int .i64 ((d : Int) + 1)) := by rw [hd]; exact (blk_cell hb 64).trans (by rw [h64]; simp)
  have hc5 : w.cell? ⟨g, 65, none⟩ = some (.int .i64 (most : Int)) := (blk_cell hb 65).trans h65
  have hx : w.cell? ⟨g, d, none⟩ = some (.int .i64 x) := by rw [hd]; exact (blk_cell hb _).trans (sk_at hr)
  have hl : d < 64 := by simp at hlm; omega
  have hl2 : (d : Int) < 64 := by omega
  have hd0 : (0 : Int) ≤ (d : Int) := by omega
  have hdg : decide ((0 : Int) < (d : Int) + 1) = true := decide_eq_true (by omega)
  have hdn : ((d : Int) + 1 == 0) = false := by rw [beq_eq_false_iff_ne]; omega
  have hnn : decide (n < 0) = false := by simp; omega
  have hxx : decide (x < n) = false := by simp; omega
  have hmm : ((d : Int) + 1 == (most : Int)) = false := by rw [beq_eq_false_iff_ne]; omega
  have hxr := hn x (by simp)
  have hx1 : 0 ≤ x := hxr.1
  have hx2 : x ≤ 4611686018427387904 := hxr.2
  have hn1 : n ≤ 4611686018427387904 := by omega
  have hl3 : d + 1 < 64 := by omega
  have hl4 : (d : Int) + 1 < 64 := by omega
  have hc1 : ∃ v, w.cell? ⟨g, d + 1, none⟩ = some v := ⟨cs[d + 1], by rw [blk_cell hb (d + 1)]; simp [hs, show d + 1 < 66 by omega]⟩
  obtain ⟨v1, hc1⟩ := hc1
  have hf : w.frozen? ⟨g, 64, none⟩ = false := blk_frozen hb _
  have hf0 : w.frozen? ⟨g, d, none⟩ = false := blk_frozen hb _
  have hf1 : w.frozen? ⟨g, d + 1, none⟩ = false := blk_frozen hb _
  have hne1 : ¬ (d : Nat) = 64 := by omega
  have hne2 : ¬ 64 = d := by omega
  have hne3 : ¬ (d + 1 : Nat) = 64 := by omega
  have hne4 : ¬ 64 = d + 1 := by omega
  have htn : ((d : Int) + 1).toNat = d + 1 := by omega
  have K : Aside0 (∀ W, W.heap = (((w.setCell ⟨g, d, none⟩ (.int .i64 (x - n))).setCell ⟨g, d + 1, none⟩ (.int .i64 n)).setCell ⟨g, 64, none⟩ (.int .i64 ((d : Int) + 2))).heap → Sk W S g most (n :: (x - n) :: r)) := ⟨by
    intro W hW
    have hb1 := blk_set hb d (.int .i64 (x - n))
    have hb2 := blk_set hb1 (d + 1) (.int .i64 n)
    have hb3 := blk_set hb2 64 (.int .i64 ((d : Int) + 2))
    have p1 := sk_put hr (x - n) hs (by omega)
    have hs1 : (cs.setIfInBounds r.length (.int .i64 (x - n))).size = 66 := by simpa using hs
    have p2 := sk_push (r := (x - n) :: r) p1 n hs1 (by simp; omega)
    refine ⟨hg, ((cs.setIfInBounds d (.int .i64 (x - n))).setIfInBounds (d + 1) (.int .i64 n)).setIfInBounds 64 (.int .i64 ((d : Int) + 2)), by rw [hW]; exact hb3, ⟨by simpa using hs, all_put (all_put (all_put hoc _ rfl) _ rfl) _ rfl⟩, ?_, ?_, ?_, by simp; omega, hm, ?_⟩
    · intro i y hy
      have hi : i < r.length + 2 := by have := (List.getElem?_eq_some_iff.1 hy).1; simpa using this
      rw [Array.getElem?_setIfInBounds, if_neg (by omega)]
      have := p2 i y hy
      rw [List.length_cons] at this
      rw [hd]; exact this
    · rw [Array.getElem?_setIfInBounds, if_pos rfl, if_pos (by simp; omega)]
      simp; omega
    · rw [Array.getElem?_setIfInBounds, if_neg (by omega), Array.getElem?_setIfInBounds, if_neg (by omega), Array.getElem?_setIfInBounds, if_neg (by omega), h65]
    · intro y hy
      rcases List.mem_cons.1 hy with rfl | hy
      · omega
      rcases List.mem_cons.1 hy with rfl | hy
      · omega
      · exact hn y (by simp [hy])⟩
  have HG := Aside0.mk hg
  clear hg hb hs hoc hr h64 h65 hlm hm hn hd hml hxr
  go_enter Try.func43, Try.ntmps43
  go_wp2
  go_region
  go_wp2
  go_region
  go_wp2
  go_region
  go_wp2
  go_region
  go_wp2
  go_ret
  exact ⟨rfl, K.out _ rfl, by repeat (first | exact Upd.refl _ _ | apply Upd.drew | refine Upd.setCell ?_ (.inl HG.out) _)⟩
set_option maxHeartbeats 8000000 in
set_option maxRecDepth 100000 in
theorem stack_new (n : Int) (w : World) :
    Calls Try.prog 26 #[.int .i64 n] w fun e w' => ∃ g : Nat, e = .returned (.pointer (some ⟨g, 0, none⟩)) ∧ Sk w' (New w None0) g (mn (mx n 0) 64).toNat [] ∧ Upd None0 w w' := by
  have hu_ := Try.underlying70
  have HU := Aside0.mk (Upd.refl None0 w)
  obtain ⟨j2, hj2⟩ : ∃ j_ : Int, (mx n 0) = j_ := ⟨_, rfl⟩
  have hj2l : 0 ≤ j2 := by (rw [← hj2]; unfold mx; (repeat' split) <;> omega)
  have hj2_ : (if n < 0 then 0 else n) = j2 := hj2
  rw [hj2]
  obtain ⟨j3, hj3⟩ : ∃ j_ : Int, (mn j2 64) = j_ := ⟨_, rfl⟩
  have hj3l : 0 ≤ j3 ∧ j3 ≤ 64 := by (rw [← hj3]; unfold mn; (repeat' split) <;> omega)
  have hj3_ : (if 64 < j2 then 64 else j2) = j3 := hj3
  rw [hj3]
  have J3 := Aside0.mk hj3l
  clear hj3l hj2 hj3
  go_enter Try.func26, Try.ntmps26
  go_wp2_with (first
    | ((with_reducible refine gate_dst (N := 6) rfl ?_)
       refine wpList_buildTo rfl 70 #[(2, .tmp 5)] rfl (some 6) rfl #[.int .i64 0, .int .i64 0, .int .i64 0, .int .i64 0, .int .i64 0, .int .i64 0, .int .i64 0, .int .i64 0, .int .i64 0, .int .i64 0, .int .i64 0, .int .i64 0, .int .i64 0, .int .i64 0, .int .i64 0, .int .i64 0, .int .i64 0, .int .i64 0, .int .i64 0, .int .i64 0, .int .i64 0, .int .i64 0, .int .i64 0, .int .i64 0, .int .i64 0, .int .i64 0, .int .i64 0, .int .i64 0, .int .i64 0, .int .i64 0, .int .i64 0, .int .i64 0, .int .i64 0, .int .i64 0, .int .i64 0, .int .i64 0, .int .i64 0, .int .i64 0, .int .i64 0, .int .i64 0, .int .i64 0, .int .i64 0, .int .i64 0, .int .i64 0, .int .i64 0, .int .i64 0, .int .i64 0, .int .i64 0, .int .i64 0, .int .i64 0, .int .i64 0, .int .i64 0, .int .i64 0, .int .i64 0, .int .i64 0, .int .i64 0, .int .i64 0, .int .i64 0, .int .i64 0, .int .i64 0, .int .i64 0, .int .i64 0, .int .i64 0, .int .i64 0, .int .i64 0, .int .i64 j3] (by kernel_rfl) ?_)
    | ((with_reducible refine gate_dst (N := 7) rfl ?_)
       refine boxnew ?hg (N := 7) ?hd (cs := #[.int .i64 0, .int .i64 0, .int .i64 0, .int .i64 0, .int .i64 0, .int .i64 0, .int .i64 0, .int .i64 0, .int .i64 0, .int .i64 0, .int .i64 0, .int .i64 0, .int .i64 0, .int .i64 0, .int .i64 0, .int .i64 0, .int .i64 0, .int .i64 0, .int .i64 0, .int .i64 0, .int .i64 0, .int .i64 0, .int .i64 0, .int .i64 0, .int .i64 0, .int .i64 0, .int .i64 0, .int .i64 0, .int .i64 0, .int .i64 0, .int .i64 0, .int .i64 0, .int .i64 0, .int .i64 0, .int .i64 0, .int .i64 0, .int .i64 0, .int .i64 0, .int .i64 0, .int .i64 0, .int .i64 0, .int .i64 0, .int .i64 0, .int .i64 0, .int .i64 0, .int .i64 0, .int .i64 0, .int .i64 0, .int .i64 0, .int .i64 0, .int .i64 0, .int .i64 0, .int .i64 0, .int .i64 0, .int .i64 0, .int .i64 0, .int .i64 0, .int .i64 0, .int .i64 0, .int .i64 0, .int .i64 0, .int .i64 0, .int .i64 0, .int .i64 0, .int .i64 0, .int .i64 j3]) (t := 70) ?hr ?_; (case hd => rfl); (case hg => rfl); (case hr => first | (go_simp; done) | (go_simp; rfl))
       intro g hge w1 hbox hu
       have n_HU := Aside0.mk (((by exact ul HU) : Upd None0 w _).trans hu (fun _ h => h.elim))
       have GE := Aside0.mk (Nat.le_trans ((by exact ul HU) : Upd None0 w _).size hge)
       clear HU; have HU := n_HU; clear n_HU hu hge
       have BK := Aside0.mk hbox; clear hbox))
  go_ret
  refine ⟨_, rfl, ⟨.inr GE.out, _, by (with_reducible repeat (first | refine blk_drewN ?_ _ | refine blk_drew ?_ | refine blk_alloc ?_ _)); exact BK.out, ⟨rfl, by simp [Value.oneCell']⟩, fun i x h => by simp at h, rfl, ?_, by simp, ?_, fun x h => by simp at h⟩, (by exact ul HU)⟩
  · rw [Int.toNat_of_nonneg J3.out.1]; rfl
  · have := J3.out; omega
theorem stack_take (g most : Nat) (left : List Int) (S : Nat → Prop) (w : World) (hS : Sk w S g most left) :
    Calls Try.prog 38 #[.pointer (some ⟨g, 0, none⟩)] w fun e w' => e = .returned (.int .i64 (Mxm.tk left).2) ∧ Sk w' S g most (Mxm.tk left).1 ∧ Upd S w w' := by
  match left with
  | [] => exact stack_take0 g most S w hS
  | x :: r =>
    by_cases h : x = 0
    · subst h
      exact stack_takeZ g most r S w hS
    · have e : Mxm.tk (x :: r) = ((x - 1) :: r, 0) := by simp [Mxm.tk, h]
      rw [e]
      exact stack_take1 g most x r S w hS h
theorem stack_leave (g most : Nat) (left : List Int) (S : Nat → Prop) (w : World) (hS : Sk w S g most left) :
    Calls Try.prog 29 #[.pointer (some ⟨g, 0, none⟩)] w fun e w' => e = .returned (.bool (Mxm.lv left).2) ∧ Sk w' S g most (Mxm.lv left).1 ∧ Upd S w w' := by
  match left with
  | [] => exact stack_leave0 g most S w hS
  | x :: r =>
    have hx := (by obtain ⟨_, _, _, _, _, _, _, _, _, hn⟩ := hS; exact hn x (by simp) : 0 ≤ x ∧ _)
    by_cases h : x = 0
    · subst h
      exact stack_leaveZ g most r S w hS
    · have e : Mxm.lv (x :: r) = (x :: r, false) := by simp [Mxm.lv, h]
      rw [e]
      exact stack_leave1 g most x r S w hS (by omega)
theorem stack_enter (g most : Nat) (left : List Int) (n : Int) (S : Nat → Prop) (w : World) (hS : Sk w S g most left) (hn0 : 0 ≤ n) (hn1 : n ≤ 4611686018427387904) :
    Calls Try.prog 43 #[.pointer (some ⟨g, 0, none⟩), .int .i64 n] w fun e w' => e = .returned (.int .i64 (Mxm.en most left n).2) ∧ Sk w' S g most (Mxm.en most left n).1 ∧ Upd S w w' := by
  have hl : left.length ≤ most := by obtain ⟨_, _, _, _, _, _, _, hl, _⟩ := hS; exact hl
  match left with
  | [] =>
    by_cases h : most = 0
    · have e : Mxm.en most [] n = ([], 10) := by simp [Mxm.en, h]
      rw [e]
      exact stack_enterDz g most n S w hS hn0 h
    · have e : Mxm.en most [] n = ([n], 0) := by simp [Mxm.en, Ne.symm h]
      rw [e]
      exact stack_enter0 g most n S w hS hn0 hn1 (by omega)
  | x :: r =>
    by_cases h : x < n
    · have e : Mxm.en most (x :: r) n = (x :: r, 5) := by simp [Mxm.en, h]
      rw [e]
      exact stack_enterF g most x n r S w hS hn0 h
    · by_cases h2 : r.length + 1 = most
      · have e : Mxm.en most (x :: r) n = (x :: r, 10) := by simp [Mxm.en, h, h2]
        rw [e]
        exact stack_enterD g most x n r S w hS hn0 (by omega) h2
      · have e : Mxm.en most (x :: r) n = (n :: (x - n) :: r, 0) := by simp [Mxm.en, h, h2]
        rw [e]
        simp at hl
        exact stack_enter1 g most x n r S w hS hn0 (by omega) (by omega)
theorem stack_leftQ (g most : Nat) (x : Int) (r : List Int) (S : Nat → Prop) (w : World) (hS : Sk w S g most (x :: r)) :
    Calls Try.prog 42 #[.pointer (some ⟨g, 0, none⟩)] w fun e w' => e = .returned (.int .i64 x) ∧ ∃ m, w' = w.drewN m :=
  (stack_left1 g most x r S w hS).mono fun _ _ ⟨he, hw⟩ => ⟨he, 1, hw⟩
theorem stack_enterE (g most : Nat) (left l2 : List Int) (n e2 : Int) (S : Nat → Prop) (w : World) (hS : Sk w S g most left) (hn0 : 0 ≤ n) (hn1 : n ≤ 2305843009213693951) (he : Mxm.en most left n = (l2, e2)) :
    Calls Try.prog 43 #[.pointer (some ⟨g, 0, none⟩), .int .i64 n] w fun e w' => e = .returned (.int .i64 e2) ∧ Sk w' S g most l2 ∧ Upd S w w' := by
  have h := stack_enter g most left n S w hS hn0 (by omega)
  rw [he] at h
  exact h
theorem stack_takeE (g most : Nat) (left l2 : List Int) (e2 : Int) (S : Nat → Prop) (w : World) (hS : Sk w S g most left) (he : Mxm.tk left = (l2, e2)) :
    Calls Try.prog 38 #[.pointer (some ⟨g, 0, none⟩)] w fun e w' => e = .returned (.int .i64 e2) ∧ Sk w' S g most l2 ∧ Upd S w w' := by
  have h := stack_take g most left S w hS
  rw [he] at h
  exact h

set_option maxHeartbeats 8000000 in
set_option maxRecDepth 100000 in
theorem stack_copy (g most : Nat) (left : List Int) (S : Nat → Prop) (w : World) (hS : Sk w S g most left) :
    Calls Try.prog 31 #[.pointer (some ⟨g, 0, none⟩)] w fun e w' => ∃ g2 : Nat, e = .returned (.pointer (some ⟨g2, 0, none⟩)) ∧ Sk w' (New w None0) g2 most left ∧ Upd None0 w w' := by
  have hu_ := Try.underlying70
  obtain ⟨hg, cs, hb, ⟨hs, hoc⟩, hr⟩ := hS
  have HU := Aside0.mk (Upd.refl None0 w)
  have HR := Aside0.mk hr
  have HB := Aside0.mk hb
  have HS := Aside0.mk hs
  have HOC := Aside0.mk hoc
  have HI : (Try.prog.info? 70).map (·.size) = some cs.size := by rw [hs]; kernel_rfl
  clear hg hb hs hoc hr
  go_enter Try.func31, Try.ntmps31
  go_wp2_with (first
    | ((with_reducible refine gate_dst (N := 6) rfl ?_)
       refine wpList_load_row rfl 70 (.tmp 5) rfl g rfl 70 cs (0, 0) _ HB.out hu_ rfl HI ?_)
    | ((with_reducible refine gate_dst (N := 3) rfl ?_)
       refine boxnew ?hg (N := 3) ?hd (cs := #[.int .i64 0, .int .i64 0, .int .i64 0, .int .i64 0, .int .i64 0, .int .i64 0, .int .i64 0, .int .i64 0, .int .i64 0, .int .i64 0, .int .i64 0, .int .i64 0, .int .i64 0, .int .i64 0, .int .i64 0, .int .i64 0, .int .i64 0, .int .i64 0, .int .i64 0, .int .i64 0, .int .i64 0, .int .i64 0, .int .i64 0, .int .i64 0, .int .i64 0, .int .i64 0, .int .i64 0, .int .i64 0, .int .i64 0, .int .i64 0, .int .i64 0, .int .i64 0, .int .i64 0, .int .i64 0, .int .i64 0, .int .i64 0, .int .i64 0, .int .i64 0, .int .i64 0, .int .i64 0, .int .i64 0, .int .i64 0, .int .i64 0, .int .i64 0, .int .i64 0, .int .i64 0, .int .i64 0, .int .i64 0, .int .i64 0, .int .i64 0, .int .i64 0, .int .i64 0, .int .i64 0, .int .i64 0, .int .i64 0, .int .i64 0, .int .i64 0, .int .i64 0, .int .i64 0, .int .i64 0, .int .i64 0, .int .i64 0, .int .i64 0, .int .i64 0, .int .i64 0, .int .i64 0]) (t := 70) ?hr ?_; (case hd => rfl); (case hg => rfl); (case hr => first | (go_simp; done) | (go_simp; rfl))
       intro g2 hge w1 hbox hu
       have GE := Aside0.mk (Nat.le_trans HU.out.size hge)
       have n_HU := Aside0.mk (HU.out.trans hu (fun _ h => h.elim))
       clear HU; have HU := n_HU; clear n_HU hu hge
       have BK := Aside0.mk hbox; clear hbox)
    | ((with_reducible refine gate_store (t := 70) (p := 3) (v := .tmp 6) rfl ?_)
       refine rowput rfl 70 (.tmp 3) (.tmp 6) rfl rfl g2 cs rfl rfl 70 _ BK.out HI HS.out.symm HOC.out ?_
       intro w2 hbox hu
       have n_HU := Aside0.mk (HU.out.trans hu (fun k hk => .inr (by rw [hk]; exact GE.out)))
       clear HU; have HU := n_HU; clear n_HU hu
       clear BK; have BK := Aside0.mk hbox; clear hbox))
  go_ret
  exact ⟨_, rfl, ⟨.inr GE.out, cs, BK.out, ⟨HS.out, HOC.out⟩, HR.out⟩, HU.out⟩
end Go.Proofs.Ytomaajagncjiiaa.PC
