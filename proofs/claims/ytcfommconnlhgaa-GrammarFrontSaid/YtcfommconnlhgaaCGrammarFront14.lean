/- What the row of GrammarFront stands on, made small by a program of this session (pack.py). -/
import Derived.Test.YtcfommconnlhgaaCGrammarFront2
import Derived.Test.YtcfommconnlhgaaCGrammarFront4
import Derived.Test.YtcfommconnlhgaaCGrammarFront11
import Derived.Test.YtcfommconnlhgaaCGrammarFront12
import Derived.Test.YtcfommconnlhgaaCGrammarFront13
namespace Go.Proofs.Ytcfommconnlhgaa.PC
open RowKit YtcfommconnlhgaaW.PrintWords YtcfommconnlhgaaW.PrintLast YtcfommconnlhgaaW.PrintMore
attribute [local go_sem] max2_int min2_int max_two min_two max_three min_three max_four min_four
set_option linter.unusedVariables false
set_option linter.unusedSimpArgs false
open Own
def Sk (w : World) (S : Nat → Prop) (g : Nat) (most : Nat) (left : List Int) : Prop :=
 S g ∧ ∃ cs : Array Value, w.heap[g]? = some (.cells cs 141 (0, 0)) ∧ (cs.size = 66 ∧ cs.all (·.oneCell') = true) ∧ (∀ (i : Nat) x, left.reverse[i]? = some x → cs[i]? = some (.int .i64 x)) ∧
  cs[64]? = some (.int .i64 (left.length : Int)) ∧ cs[65]? = some (.int .i64 (most : Int)) ∧ left.length ≤ most ∧ most ≤ 64 ∧ ∀ x, x ∈ left → 0 ≤ x ∧ x ≤ 4611686018427387904
theorem Sk.upd {w W : World} {S T : Nat → Prop} {g : Nat} {most : Nat} {left : List Int} (h : Sk w S g most left) (hu : Upd T w W) (hd : ∀ k, S k → ¬ T k) : Sk W S g most left := by
 obtain ⟨hg, cs, hb, hr⟩ := h
 exact ⟨hg, cs, hu.blk hb (hd g hg), hr⟩
theorem Sk.mono {w : World} {S S' : Nat → Prop} {g : Nat} {most : Nat} {left : List Int} (h : Sk w S g most left) (hs : ∀ k, S k → S' k) : Sk w S' g most left := by
 obtain ⟨hg, hr⟩ := h
 exact ⟨hs g hg, hr⟩
theorem Sk.old {w : World} {S : Nat → Prop} {g : Nat} {most : Nat} {left : List Int} (h : Sk w S g most left) : Sk w (fun k => S k ∧ k < w.heap.size) g most left := by
 obtain ⟨hg, cs, hb, hr⟩ := h
 exact ⟨⟨hg, blk_lt hb⟩, cs, hb, hr⟩
theorem Sk.bnd {w : World} {S : Nat → Prop} {g : Nat} {most : Nat} {left : List Int} (h : Sk w S g most left) : Sk w (Bnd w [141] S) g most left := by
 obtain ⟨hg, cs, hb, hr⟩ := h
 exact ⟨Bnd.blk hg hb zz8, cs, hb, hr⟩
theorem Sk.drew {w : World} {S : Nat → Prop} {g : Nat} {most : Nat} {left : List Int} (h : Sk w S g most left) : Sk w.drew S g most left := h.upd (Upd.drew (Upd.refl None0 w)) (fun _ _ h => h)
theorem Sk.drewN {w : World} {S : Nat → Prop} {g : Nat} {most : Nat} {left : List Int} (h : Sk w S g most left) (n : Nat) : Sk (w.drewN n) S g most left := h.upd (Upd.drewN (Upd.refl None0 w) n) (fun _ _ h => h)
theorem Sk.alloc {w : World} {S : Nat → Prop} {g : Nat} {most : Nat} {left : List Int} (h : Sk w S g most left) (o : Obj) : Sk (w.alloc o) S g most left := h.upd (Upd.alloc (Upd.refl None0 w) o) (fun _ _ h => h)
theorem Sk.updN {w W : World} {S : Nat → Prop} {g : Nat} {most : Nat} {left : List Int} (h : Sk w S g most left) (hu : Upd None0 w W) : Sk W S g most left := h.upd hu (fun _ _ h => h)
theorem Sk.updT {w W : World} {S : Nat → Prop} {g : Nat} {most : Nat} {left : List Int} (h : Sk w S g most left) {g' t : Nat} {cs : Array Value} (hb : w.heap[g']? = some (.cells cs t (0, 0))) (ht : ∀ q, q ∈ [141] → q ≠ t) (hu : Upd (fun k => k = g') w W) : Sk W S g most left := (h.bnd.upd hu (Bnd.ne_one hb ht)).mono Bnd.of
theorem Sk.updR {w W : World} {S : Nat → Prop} {g : Nat} {most : Nat} {left : List Int} {T : Nat → Prop} {α : Type} {d : Kd α} {e : Nat} {v' : Value} {xs : List α} (h : Sk w S g most left) (hr : d.R e w 0 T v' xs) (ht : ∀ q, q ∈ [141] → q ≠ e) (hu : Upd (fun k => some k = v'.ownBlock) w W) : Sk W S g most left := (h.bnd.upd hu (Bnd.ne_row hr ht)).mono Bnd.of
theorem Sk.updB {w W : World} {S : Nat → Prop} {g : Nat} {most : Nat} {left : List Int} {T : Nat → Prop} {E' : List Nat} (h : Sk w S g most left) (hu : Upd (Bnd w E' T) w W) (hE : ∀ q, q ∈ [141] → q ∉ E') : Sk W S g most left := (h.bnd.upd hu (fun k h1 h2 => bnd_apart hE h1 h2)).mono Bnd.of
theorem all_put {cs : Array Value} (h : cs.all (·.oneCell') = true) {v : Value} (i : Nat) (hv : v.oneCell' = true) : (cs.setIfInBounds i v).all (·.oneCell') = true := by
 rw [Array.all_eq_true] at h ⊢
 intro j hj
 rw [Array.getElem_setIfInBounds]
 split
 ·
  exact hv
 ·
  exact h j (by simpa using hj)
theorem sk_at {cs : Array Value} {x : Int} {r : List Int} (h : ∀ (i : Nat) y, (x :: r).reverse[i]? = some y → cs[i]? = some (.int .i64 y)) : cs[r.length]? = some (.int .i64 x) :=
 h r.length x zz19
theorem sk_put {cs : Array Value} {x : Int} {r : List Int} (h : ∀ (i : Nat) y, (x :: r).reverse[i]? = some y → cs[i]? = some (.int .i64 y)) (n : Int) (hs : cs.size = 66) (hl : r.length < 64) :
 ∀ (i : Nat) y, (n :: r).reverse[i]? = some y → (cs.setIfInBounds r.length (.int .i64 n))[i]? = some (.int .i64 y) := by
 intro i y hy
 have hi : i < r.length + 1 := by have := (List.getElem?_eq_some_iff.1 hy).1; simpa using this
 rw [Array.getElem?_setIfInBounds]
 by_cases hir : r.length = i
 ·
  subst hir
  rw [if_pos rfl, if_pos zz4]
  simp at hy
  rw [hy]
 ·
  rw [if_neg hir]
  refine h i y ?_
  rw [List.reverse_cons, List.getElem?_append_left zz29] at hy ⊢
  exact hy
theorem sk_push {cs : Array Value} {r : List Int} (h : ∀ (i : Nat) y, r.reverse[i]? = some y → cs[i]? = some (.int .i64 y)) (n : Int) (hs : cs.size = 66) (hl : r.length < 64) :
 ∀ (i : Nat) y, (n :: r).reverse[i]? = some y → (cs.setIfInBounds r.length (.int .i64 n))[i]? = some (.int .i64 y) := by
 intro i y hy
 have hi : i < r.length + 1 := by have := (List.getElem?_eq_some_iff.1 hy).1; simpa using this
 rw [Array.getElem?_setIfInBounds]
 by_cases hir : r.length = i
 ·
  subst hir
  rw [if_pos rfl, if_pos zz4]
  simp at hy
  rw [hy]
 ·
  rw [if_neg hir]
  refine h i y ?_
  rw [List.reverse_cons, List.getElem?_append_left zz29] at hy
  exact hy
theorem sk_set {w : World} {S : Nat → Prop} {g i : Nat} {cs : Array Value} (hg : S g) (hb : w.heap[g]? = some (.cells cs 141 (0, 0))) (v : Value) : Upd S w (w.setCell ⟨g, i, none⟩ v) := by
 rw [setCell_eq_setRow w g i cs _ (0, 0) v hb]
 exact (upd_setRow w g _).mono (fun k hk => by rw [hk]; exact hg)
set_option maxHeartbeats 4000000 in
set_option maxRecDepth 100000 in
theorem stack_depth (g most : Nat) (left : List Int) (S : Nat → Prop) (w : World) (hS : Sk w S g most left) :
 Calls Try.prog 57 #[.pointer (some ⟨g, 0, none⟩)] w fun e w' => e = .returned (.int .i64 (left.length : Int)) ∧ w' = w := by
 obtain ⟨hg, cs, hb, ⟨hs, hoc⟩, hr, h64, h65, hlm, hm, hn⟩ := hS
 have hc : w.cell? ⟨g, 64, none⟩ = some (.int .i64 (left.length : Int)) := (blk_cell hb 64).trans h64
 clear hg hb hs hoc hr h64 h65 hlm hm hn
 go_enter Try.func57, Try.ntmps57
 go_wp2
 go_ret
 exact ⟨rfl, rfl⟩
set_option maxHeartbeats 4000000 in
set_option maxRecDepth 100000 in
theorem stack_left1 (g most : Nat) (x : Int) (r : List Int) (S : Nat → Prop) (w : World) (hS : Sk w S g most (x :: r)) :
 Calls Try.prog 87 #[.pointer (some ⟨g, 0, none⟩)] w fun e w' => e = .returned (.int .i64 x) ∧ w' = w.drew := by
 obtain ⟨hg, cs, hb, ⟨hs, hoc⟩, hr, h64, h65, hlm, hm, hn⟩ := hS
 obtain ⟨d, hd⟩ : ∃ d, d = r.length := ⟨_, rfl⟩
 have hc : w.cell? ⟨g, 64, none⟩ = some (.int .i64 ((d : Int) + 1)) := by rw [hd]; exact (blk_cell hb 64).trans (by rw [h64]; simp)
 have hx : w.cell? ⟨g, d, none⟩ = some (.int .i64 x) := by rw [hd]; exact (blk_cell hb _).trans (sk_at hr)
 have hl : d < 64 := by simp at hlm; omega
 have hl2 : (d : Int) < 64 := by omega
 have hd0 : (0 : Int) ≤ (d : Int) := by omega
 clear hg hb hs hoc hr h64 h65 hlm hm hn hd
 go_enter Try.func87, Try.ntmps87
 go_wp2
 go_region
 go_wp2
 go_ret
 exact ⟨rfl, rfl⟩
set_option maxHeartbeats 4000000 in
set_option maxRecDepth 100000 in
theorem stack_take0 (g most : Nat) (S : Nat → Prop) (w : World) (hS : Sk w S g most []) :
 Calls Try.prog 71 #[.pointer (some ⟨g, 0, none⟩)] w fun e w' => e = .returned (.int .i64 0) ∧ Sk w' S g most [] ∧ Upd S w w' := by
 have HS := Aside0.mk hS
 obtain ⟨hg, cs, hb, ⟨hs, hoc⟩, hr, h64, h65, hlm, hm, hn⟩ := hS
 have hc : w.cell? ⟨g, 64, none⟩ = some (.int .i64 0) := (blk_cell hb 64).trans h64
 clear hg hb hs hoc hr h64 h65 hlm hm hn
 go_enter Try.func71, Try.ntmps71
 go_wp2
 go_ret
 exact ⟨rfl, HS.out, Upd.refl _ _⟩
set_option maxHeartbeats 4000000 in
set_option maxRecDepth 100000 in
theorem stack_takeZ (g most : Nat) (r : List Int) (S : Nat → Prop) (w : World) (hS : Sk w S g most (0 :: r)) :
 Calls Try.prog 71 #[.pointer (some ⟨g, 0, none⟩)] w fun e w' => e = .returned (.int .i64 5) ∧ Sk w' S g most (0 :: r) ∧ Upd S w w' := by
 have HS := Aside0.mk hS
 obtain ⟨hg, cs, hb, ⟨hs, hoc⟩, hr, h64, h65, hlm, hm, hn⟩ := hS
 obtain ⟨d, hd⟩ : ∃ d, d = r.length := ⟨_, rfl⟩
 have hc : w.cell? ⟨g, 64, none⟩ = some (.int .i64 ((d : Int) + 1)) := by rw [hd]; exact (blk_cell hb 64).trans (by rw [h64]; simp)
 have hx : w.cell? ⟨g, d, none⟩ = some (.int .i64 0) := by rw [hd]; exact (blk_cell hb _).trans (sk_at hr)
 have hl : d < 64 := by simp at hlm; omega
 have hl2 : (d : Int) < 64 := by omega
 have hd0 : (0 : Int) ≤ (d : Int) := by omega
 have hdn : ((d : Int) + 1 == 0) = false := by rw [beq_eq_false_iff_ne]; omega
 clear hg hb hs hoc hr h64 h65 hlm hm hn hd
 go_enter Try.func71, Try.ntmps71
 go_wp2
 go_region
 go_wp2
 go_ret
 exact ⟨rfl, HS.out.drew, (Upd.refl _ _).drew⟩
set_option maxHeartbeats 4000000 in
set_option maxRecDepth 100000 in
theorem stack_take1 (g most : Nat) (x : Int) (r : List Int) (S : Nat → Prop) (w : World) (hS : Sk w S g most (x :: r)) (hx0 : x ≠ 0) :
 Calls Try.prog 71 #[.pointer (some ⟨g, 0, none⟩)] w fun e w' => e = .returned (.int .i64 0) ∧ Sk w' S g most ((x - 1) :: r) ∧ Upd S w w' := by
 obtain ⟨hg, cs, hb, ⟨hs, hoc⟩, hr, h64, h65, hlm, hm, hn⟩ := hS
 obtain ⟨d, hd⟩ : ∃ d, d = r.length := ⟨_, rfl⟩
 have hc : w.cell? ⟨g, 64, none⟩ = some (.int .i64 ((d : Int) + 1)) := by rw [hd]; exact (blk_cell hb 64).trans (by rw [h64]; simp)
 have hx : w.cell? ⟨g, d, none⟩ = some (.int .i64 x) := by rw [hd]; exact (blk_cell hb _).trans (sk_at hr)
 have hf : w.frozen? ⟨g, d, none⟩ = false := blk_frozen hb _
 have hl : d < 64 := by simp at hlm; omega
 have hl2 : (d : Int) < 64 := by omega
 have hd0 : (0 : Int) ≤ (d : Int) := by omega
 have hdn : ((d : Int) + 1 == 0) = false := by rw [beq_eq_false_iff_ne]; omega
 have hxb : (x == 0) = false := beq_eq_false_iff_ne.2 hx0
 have hxr := hn x zz19
 have hx1 : 0 ≤ x := hxr.1
 have hx2 : x ≤ 4611686018427387904 := hxr.2
 have K : Aside0 (∀ W, W = (w.drew.setCell ⟨g, d, none⟩ (.int .i64 (x - 1))).drew → Sk W S g most ((x - 1) :: r) ∧ Upd S w W) := ⟨by
  rintro W rfl
  refine ⟨⟨hg, cs.setIfInBounds d (.int .i64 (x - 1)), blk_set hb d _, ⟨by simpa using hs, all_put hoc _ rfl⟩, ?_, ?_, ?_, by simpa using hlm, hm, ?_⟩, ((Upd.refl S w).drew.setCell (.inl hg) _).drew⟩
  ·
   rw [hd]; exact sk_put hr _ hs zz4
  ·
   rw [Array.getElem?_setIfInBounds, if_neg zz4, h64]; simp
  ·
   rw [Array.getElem?_setIfInBounds, if_neg zz4, h65]
  ·
   intro y hy
   rcases List.mem_cons.1 hy with rfl | hy
   ·
    omega
   ·
    exact hn y (by simp [hy])⟩
 clear hg hb hs hoc hr h64 h65 hlm hm hn hd hx0 hxr
 go_enter Try.func71, Try.ntmps71
 go_wp2
 go_region
 go_wp2
 go_region
 go_wp2
 go_ret
 exact ⟨rfl, K.out _ rfl⟩
set_option maxHeartbeats 4000000 in
set_option maxRecDepth 100000 in
theorem stack_leave0 (g most : Nat) (S : Nat → Prop) (w : World) (hS : Sk w S g most []) :
 Calls Try.prog 56 #[.pointer (some ⟨g, 0, none⟩)] w fun e w' => e = .returned (.bool false) ∧ Sk w' S g most [] ∧ Upd S w w' := by
 have HS := Aside0.mk hS
 obtain ⟨hg, cs, hb, ⟨hs, hoc⟩, hr, h64, h65, hlm, hm, hn⟩ := hS
 have hc : w.cell? ⟨g, 64, none⟩ = some (.int .i64 0) := (blk_cell hb 64).trans h64
 clear hg hb hs hoc hr h64 h65 hlm hm hn
 go_enter Try.func56, Try.ntmps56
 go_wp2
 go_region
 go_wp2
 go_ret
 exact ⟨rfl, HS.out.drew, (Upd.refl _ _).drew⟩
set_option maxHeartbeats 4000000 in
set_option maxRecDepth 100000 in
theorem stack_leave1 (g most : Nat) (x : Int) (r : List Int) (S : Nat → Prop) (w : World) (hS : Sk w S g most (x :: r)) (hx0 : 0 < x) :
 Calls Try.prog 56 #[.pointer (some ⟨g, 0, none⟩)] w fun e w' => e = .returned (.bool false) ∧ Sk w' S g most (x :: r) ∧ Upd S w w' := by
 have HS := Aside0.mk hS
 obtain ⟨hg, cs, hb, ⟨hs, hoc⟩, hr, h64, h65, hlm, hm, hn⟩ := hS
 obtain ⟨d, hd⟩ : ∃ d, d = r.length := ⟨_, rfl⟩
 have hc : w.cell? ⟨g, 64, none⟩ = some (.int .i64 ((d : Int) + 1)) := by rw [hd]; exact (blk_cell hb 64).trans (by rw [h64]; simp)
 have hx : w.cell? ⟨g, d, none⟩ = some (.int .i64 x) := by rw [hd]; exact (blk_cell hb _).trans (sk_at hr)
 have hl : d < 64 := by simp at hlm; omega
 have hl2 : (d : Int) < 64 := by omega
 have hd0 : (0 : Int) ≤ (d : Int) := by omega
 have hdn : ((d : Int) + 1 == 0) = false := by rw [beq_eq_false_iff_ne]; omega
 have hxb : decide (0 < x) = true := decide_eq_true hx0
 clear hg hb hs hoc hr h64 h65 hlm hm hn hd hx0
 go_enter Try.func56, Try.ntmps56
 go_wp2
 go_region
 go_wp2
 go_ret
 exact ⟨rfl, HS.out.drew, (Upd.refl _ _).drew⟩
set_option maxHeartbeats 4000000 in
set_option maxRecDepth 100000 in
theorem stack_leaveZ (g most : Nat) (r : List Int) (S : Nat → Prop) (w : World) (hS : Sk w S g most (0 :: r)) :
 Calls Try.prog 56 #[.pointer (some ⟨g, 0, none⟩)] w fun e w' => e = .returned (.bool true) ∧ Sk w' S g most r ∧ Upd S w w' := by
 obtain ⟨hg, cs, hb, ⟨hs, hoc⟩, hr, h64, h65, hlm, hm, hn⟩ := hS
 obtain ⟨d, hd⟩ : ∃ d, d = r.length := ⟨_, rfl⟩
 have hc : w.cell? ⟨g, 64, none⟩ = some (.int .i64 ((d : Int) + 1)) := by rw [hd]; exact (blk_cell hb 64).trans (by rw [h64]; simp)
 have hf : w.frozen? ⟨g, 64, none⟩ = false := blk_frozen hb _
 have hx : w.cell? ⟨g, d, none⟩ = some (.int .i64 0) := by rw [hd]; exact (blk_cell hb _).trans (sk_at hr)
 have hl : d < 64 := by simp at hlm; omega
 have hl2 : (d : Int) < 64 := by omega
 have hd0 : (0 : Int) ≤ (d : Int) := by omega
 have hdn : ((d : Int) + 1 == 0) = false := by rw [beq_eq_false_iff_ne]; omega
 have K : Aside0 (∀ W, W = (w.setCell ⟨g, 64, none⟩ (.int .i64 (d : Int))).drew → Sk W S g most r ∧ Upd S w W) := ⟨by
  rintro W rfl
  refine ⟨⟨hg, cs.setIfInBounds 64 (.int .i64 (d : Int)), blk_set hb 64 _, ⟨by simpa using hs, all_put hoc _ rfl⟩, ?_, ?_, ?_, by simp at hlm; omega, hm, fun y hy => hn y (by simp [hy])⟩, (sk_set hg hb _).drew⟩
  ·
   intro i y hy
   have hi : i < r.length := by have := (List.getElem?_eq_some_iff.1 hy).1; simpa using this
   rw [Array.getElem?_setIfInBounds, if_neg zz4]
   refine hr i y ?_
   rw [List.reverse_cons, List.getElem?_append_left zz29]
   exact hy
  ·
   rw [Array.getElem?_setIfInBounds, if_pos rfl, if_pos zz4, hd]
  ·
   rw [Array.getElem?_setIfInBounds, if_neg zz4, h65]⟩
 clear hg hb hs hoc hr h64 h65 hlm hm hn hd
 go_enter Try.func56, Try.ntmps56
 go_wp2
 go_region
 go_wp2
 go_ret
 exact ⟨rfl, K.out _ rfl⟩
set_option maxHeartbeats 8000000 in
set_option maxRecDepth 100000 in
theorem stack_enter0 (g most : Nat) (n : Int) (S : Nat → Prop) (w : World) (hS : Sk w S g most []) (hn0 : 0 ≤ n) (hn1 : n ≤ 4611686018427387904) (hm0 : 0 < most) :
 Calls Try.prog 88 #[.pointer (some ⟨g, 0, none⟩), .int .i64 n] w fun e w' => e = .returned (.int .i64 0) ∧ Sk w' S g most [n] ∧ Upd S w w' := by
 obtain ⟨hg, cs, hb, ⟨hs, hoc⟩, hr, h64, h65, hlm, hm, hn⟩ := hS
 have hc : w.cell? ⟨g, 64, none⟩ = some (.int .i64 0) := (blk_cell hb 64).trans h64
 have hc5 : w.cell? ⟨g, 65, none⟩ = some (.int .i64 (most : Int)) := (blk_cell hb 65).trans h65
 have hc0 : ∃ v, w.cell? ⟨g, 0, none⟩ = some v := ⟨cs[0], by rw [blk_cell hb 0]; simp [hs]⟩
 obtain ⟨v0, hc0⟩ := hc0
 have hf : w.frozen? ⟨g, 64, none⟩ = false := blk_frozen hb _
 have hf0 : w.frozen? ⟨g, 0, none⟩ = false := blk_frozen hb _
 have hnn : decide (n < 0) = false := by simp; omega
 have hmm : ((0 : Int) == (most : Int)) = false := by rw [beq_eq_false_iff_ne]; omega
 have K : Aside0 (∀ W, W = ((w.setCell ⟨g, 0, none⟩ (.int .i64 n)).setCell ⟨g, 64, none⟩ (.int .i64 1)).drew.drew.drew → Sk W S g most [n] ∧ Upd S w W) := ⟨by
  rintro W rfl
  have hb1 := blk_set hb 0 (.int .i64 n)
  refine ⟨⟨hg, (cs.setIfInBounds 0 (.int .i64 n)).setIfInBounds 64 (.int .i64 1), blk_set hb1 64 _, ⟨by simpa using hs, all_put (all_put hoc _ rfl) _ rfl⟩, ?_, ?_, ?_, zz29, hm, zz29⟩, (((Upd.refl S w).setCell (.inl hg) _).setCell (.inl hg) _).drew.drew.drew⟩
  ·
   intro i y hy
   have hi : i < 1 := by have := (List.getElem?_eq_some_iff.1 hy).1; simpa using this
   obtain rfl : i = 0 := by omega
   simp at hy
   subst hy
   rw [Array.getElem?_setIfInBounds, if_neg zz4, Array.getElem?_setIfInBounds, if_pos rfl, if_pos zz4]
  ·
   rw [Array.getElem?_setIfInBounds, if_pos rfl, if_pos zz29]; rfl
  ·
   rw [Array.getElem?_setIfInBounds, if_neg zz4, Array.getElem?_setIfInBounds, if_neg zz4, h65]⟩
 clear hg hb hs hoc hr h64 h65 hlm hm hn hn0 hn1 hm0
 go_enter Try.func88, Try.ntmps88
 go_wp2
 go_region
 go_wp2
 go_region
 go_wp2
 go_region
 go_wp2
 go_ret
 exact ⟨rfl, K.out _ rfl⟩
set_option maxHeartbeats 8000000 in
set_option maxRecDepth 100000 in
theorem stack_enterF (g most : Nat) (x n : Int) (r : List Int) (S : Nat → Prop) (w : World) (hS : Sk w S g most (x :: r)) (hn0 : 0 ≤ n) (hxn : x < n) :
 Calls Try.prog 88 #[.pointer (some ⟨g, 0, none⟩), .int .i64 n] w fun e w' => e = .returned (.int .i64 5) ∧ Sk w' S g most (x :: r) ∧ Upd S w w' := by
 have HS := Aside0.mk hS
 obtain ⟨hg, cs, hb, ⟨hs, hoc⟩, hr, h64, h65, hlm, hm, hn⟩ := hS
 obtain ⟨d, hd⟩ : ∃ d, d = r.length := ⟨_, rfl⟩
 have hc : w.cell? ⟨g, 64, none⟩ = some (.int .i64 ((d : Int) + 1)) := by rw [hd]; exact (blk_cell hb 64).trans (by rw [h64]; simp)
 have hc5 : w.cell? ⟨g, 65, none⟩ = some (.int .i64 (most : Int)) := (blk_cell hb 65).trans h65
 have hx : w.cell? ⟨g, d, none⟩ = some (.int .i64 x) := by rw [hd]; exact (blk_cell hb _).trans (sk_at hr)
 have hl : d < 64 := by simp at hlm; omega
 have hl2 : (d : Int) < 64 := by omega
 have hd0 : (0 : Int) ≤ (d : Int) := by omega
 have hdg : decide ((0 : Int) < (d : Int) + 1) = true := decide_eq_true zz4
 have hdn : ((d : Int) + 1 == 0) = false := by rw [beq_eq_false_iff_ne]; omega
 have hnn : decide (n < 0) = false := by simp; omega
 have hxx : decide (x < n) = true := decide_eq_true hxn
 clear hg hb hs hoc hr h64 h65 hlm hm hn hd hn0 hxn
 go_enter Try.func88, Try.ntmps88
 go_wp2
 go_region
 go_wp2
 go_ret
 exact ⟨rfl, HS.out.drew, (Upd.refl _ _).drew⟩
set_option maxHeartbeats 8000000 in
set_option maxRecDepth 100000 in
theorem stack_enterD (g most : Nat) (x n : Int) (r : List Int) (S : Nat → Prop) (w : World) (hS : Sk w S g most (x :: r)) (hn0 : 0 ≤ n) (hxn : n ≤ x) (hml : r.length + 1 = most) :
 Calls Try.prog 88 #[.pointer (some ⟨g, 0, none⟩), .int .i64 n] w fun e w' => e = .returned (.int .i64 10) ∧ Sk w' S g most (x :: r) ∧ Upd S w w' := by
 have HS := Aside0.mk hS
 obtain ⟨hg, cs, hb, ⟨hs, hoc⟩, hr, h64, h65, hlm, hm, hn⟩ := hS
 obtain ⟨d, hd⟩ : ∃ d, d = r.length := ⟨_, rfl⟩
 have hc : w.cell? ⟨g, 64, none⟩ = some (.int .i64 ((d : Int) + 1)) := by rw [hd]; exact (blk_cell hb 64).trans (by rw [h64]; simp)
 have hc5 : w.cell? ⟨g, 65, none⟩ = some (.int .i64 (most : Int)) := (blk_cell hb 65).trans h65
 have hx : w.cell? ⟨g, d, none⟩ = some (.int .i64 x) := by rw [hd]; exact (blk_cell hb _).trans (sk_at hr)
 have hl : d < 64 := by simp at hlm; omega
 have hl2 : (d : Int) < 64 := by omega
 have hd0 : (0 : Int) ≤ (d : Int) := by omega
 have hdg : decide ((0 : Int) < (d : Int) + 1) = true := decide_eq_true zz4
 have hdn : ((d : Int) + 1 == 0) = false := by rw [beq_eq_false_iff_ne]; omega
 have hnn : decide (n < 0) = false := by simp; omega
 have hxx : decide (x < n) = false := by simp; omega
 have hmm : ((d : Int) + 1 == (most : Int)) = true := by rw [beq_iff_eq]; omega
 clear hg hb hs hoc hr h64 h65 hlm hm hn hd hn0 hxn hml
 go_enter Try.func88, Try.ntmps88
 go_wp2
 go_region
 go_wp2
 go_region
 go_wp2
 go_ret
 exact ⟨rfl, HS.out.drew.drew, (Upd.refl _ _).drew.drew⟩
set_option maxHeartbeats 8000000 in
set_option maxRecDepth 100000 in
theorem stack_enterDz (g most : Nat) (n : Int) (S : Nat → Prop) (w : World) (hS : Sk w S g most []) (hn0 : 0 ≤ n) (hml : most = 0) :
 Calls Try.prog 88 #[.pointer (some ⟨g, 0, none⟩), .int .i64 n] w fun e w' => e = .returned (.int .i64 10) ∧ Sk w' S g most [] ∧ Upd S w w' := by
 have HS := Aside0.mk hS
 subst hml
 obtain ⟨hg, cs, hb, ⟨hs, hoc⟩, hr, h64, h65, hlm, hm, hn⟩ := hS
 have hc : w.cell? ⟨g, 64, none⟩ = some (.int .i64 0) := (blk_cell hb 64).trans h64
 have hc5 : w.cell? ⟨g, 65, none⟩ = some (.int .i64 0) := (blk_cell hb 65).trans h65
 have hnn : decide (n < 0) = false := by simp; omega
 clear hg hb hs hoc hr h64 h65 hlm hm hn hn0
 go_enter Try.func88, Try.ntmps88
 go_wp2
 go_region
 go_wp2
 go_region
 go_wp2
 go_ret
 exact ⟨rfl, HS.out.drew.drew, (Upd.refl _ _).drew.drew⟩
set_option maxHeartbeats 8000000 in
set_option maxRecDepth 100000 in
theorem stack_enter1 (g most : Nat) (x n : Int) (r : List Int) (S : Nat → Prop) (w : World) (hS : Sk w S g most (x :: r)) (hn0 : 0 ≤ n) (hxn : n ≤ x) (hml : r.length + 1 < most) :
 Calls Try.prog 88 #[.pointer (some ⟨g, 0, none⟩), .int .i64 n] w fun e w' => e = .returned (.int .i64 0) ∧ Sk w' S g most (n :: (x - n) :: r) ∧ Upd S w w' := by
 obtain ⟨hg, cs, hb, ⟨hs, hoc⟩, hr, h64, h65, hlm, hm, hn⟩ := hS
 obtain ⟨d, hd⟩ : ∃ d, d = r.length := ⟨_, rfl⟩
 have hc : w.cell? ⟨g, 64, none⟩ = some (.int .i64 ((d : Int) + 1)) := by rw [hd]; exact (blk_cell hb 64).trans (by rw [h64]; simp)
 have hc5 : w.cell? ⟨g, 65, none⟩ = some (.int .i64 (most : Int)) := (blk_cell hb 65).trans h65
 have hx : w.cell? ⟨g, d, none⟩ = some (.int .i64 x) := by rw [hd]; exact (blk_cell hb _).trans (sk_at hr)
 have hl : d < 64 := by simp at hlm; omega
 have hl2 : (d : Int) < 64 := by omega
 have hd0 : (0 : Int) ≤ (d : Int) := by omega
 have hdg : decide ((0 : Int) < (d : Int) + 1) = true := decide_eq_true zz4
 have hdn : ((d : Int) + 1 == 0) = false := by rw [beq_eq_false_iff_ne]; omega
 have hnn : decide (n < 0) = false := by simp; omega
 have hxx : decide (x < n) = false := by simp; omega
 have hmm : ((d : Int) + 1 == (most : Int)) = false := by rw [beq_eq_false_iff_ne]; omega
 have hxr := hn x zz19
 have hx1 : 0 ≤ x := hxr.1
 have hx2 : x ≤ 4611686018427387904 := hxr.2
 have hn1 : n ≤ 4611686018427387904 := by omega
 have hl3 : d + 1 < 64 := by omega
 have hl4 : (d : Int) + 1 < 64 := by omega
 have hc1 : ∃ v, w.cell? ⟨g, d + 1, none⟩ = some v := ⟨cs[d + 1], by rw [blk_cell hb (d + 1)]; simp [hs, show d + 1 < 66 by omega]⟩
 obtain ⟨v1, hc1⟩ := hc1
 have hf : w.frozen? ⟨g, 64, none⟩ = false := blk_frozen hb _
 have hf0 : w.frozen? ⟨g, d, none⟩ = false := blk_frozen hb _
 have hf1 : w.frozen? ⟨g, d + 1, none⟩ = false := blk_frozen hb _
 have hne1 : ¬ (d : Nat) = 64 := by omega
 have hne2 : ¬ 64 = d := by omega
 have hne3 : ¬ (d + 1 : Nat) = 64 := by omega
 have hne4 : ¬ 64 = d + 1 := by omega
 have htn : ((d : Int) + 1).toNat = d + 1 := by omega
 have K : Aside0 (∀ W, W.heap = (((w.setCell ⟨g, d, none⟩ (.int .i64 (x - n))).setCell ⟨g, d + 1, none⟩ (.int .i64 n)).setCell ⟨g, 64, none⟩ (.int .i64 ((d : Int) + 2))).heap → Sk W S g most (n :: (x - n) :: r)) := ⟨by
  intro W hW
  have hb1 := blk_set hb d (.int .i64 (x - n))
  have hb2 := blk_set hb1 (d + 1) (.int .i64 n)
  have hb3 := blk_set hb2 64 (.int .i64 ((d : Int) + 2))
  have p1 := sk_put hr (x - n) hs zz4
  have hs1 : (cs.setIfInBounds r.length (.int .i64 (x - n))).size = 66 := by simpa using hs
  have p2 := sk_push (r := (x - n) :: r) p1 n hs1 zz29
  refine ⟨hg, ((cs.setIfInBounds d (.int .i64 (x - n))).setIfInBounds (d + 1) (.int .i64 n)).setIfInBounds 64 (.int .i64 ((d : Int) + 2)), by rw [hW]; exact hb3, ⟨by simpa using hs, all_put (all_put (all_put hoc _ rfl) _ rfl) _ rfl⟩, ?_, ?_, ?_, zz29, hm, ?_⟩
  ·
   intro i y hy
   have hi : i < r.length + 2 := by have := (List.getElem?_eq_some_iff.1 hy).1; simpa using this
   rw [Array.getElem?_setIfInBounds, if_neg zz4]
   have := p2 i y hy
   rw [List.length_cons] at this
   rw [hd]; exact this
  ·
   rw [Array.getElem?_setIfInBounds, if_pos rfl, if_pos zz29]
   simp; omega
  ·
   rw [Array.getElem?_setIfInBounds, if_neg zz4, Array.getElem?_setIfInBounds, if_neg zz4, Array.getElem?_setIfInBounds, if_neg zz4, h65]
  ·
   intro y hy
   rcases List.mem_cons.1 hy with rfl | hy
   ·
    omega
   rcases List.mem_cons.1 hy with rfl | hy
   ·
    omega
   ·
    exact hn y (by simp [hy])⟩
 have HG := Aside0.mk hg
 clear hg hb hs hoc hr h64 h65 hlm hm hn hd hml hxr
 go_enter Try.func88, Try.ntmps88
 go_wp2
 go_region
 go_wp2
 go_region
 go_wp2
 go_region
 go_wp2
 go_region
 go_wp2
 go_ret
 exact ⟨rfl, K.out _ rfl, by repeat (first | exact Upd.refl _ _ | apply Upd.drew | refine Upd.setCell ?_ (.inl HG.out) _)⟩
set_option maxHeartbeats 8000000 in
set_option maxRecDepth 100000 in
theorem stack_new (n : Int) (w : World) :
 Calls Try.prog 53 #[.int .i64 n] w fun e w' => ∃ g : Nat, e = .returned (.pointer (some ⟨g, 0, none⟩)) ∧ Sk w' (New w None0) g (mn (mx n 0) 64).toNat [] ∧ Upd None0 w w' := by
 have hu_ := Try.underlying141
 have HU := Aside0.mk (Upd.refl None0 w)
 obtain ⟨j2, hj2⟩ : ∃ j_ : Int, (mx n 0) = j_ := ⟨_, rfl⟩
 have hj2l : 0 ≤ j2 := by (rw [← hj2]; unfold mx; (repeat' split) <;> omega)
 have hj2_ : (if n < 0 then 0 else n) = j2 := hj2
 rw [hj2]
 obtain ⟨j3, hj3⟩ : ∃ j_ : Int, (mn j2 64) = j_ := ⟨_, rfl⟩
 have hj3l : 0 ≤ j3 ∧ j3 ≤ 64 := by (rw [← hj3]; unfold mn; (repeat' split) <;> omega)
 have hj3_ : (if 64 < j2 then 64 else j2) = j3 := hj3
 rw [hj3]
 have J3 := Aside0.mk hj3l
 clear hj3l hj2 hj3
 go_enter Try.func53, Try.ntmps53
 go_wp2_with (first
  | ((with_reducible refine gate_dst (N := 6) rfl ?_)
     refine wpList_buildTo rfl 141 #[(2, .tmp 5)] rfl (some 6) rfl #[.int .i64 0, .int .i64 0, .int .i64 0, .int .i64 0, .int .i64 0, .int .i64 0, .int .i64 0, .int .i64 0, .int .i64 0, .int .i64 0, .int .i64 0, .int .i64 0, .int .i64 0, .int .i64 0, .int .i64 0, .int .i64 0, .int .i64 0, .int .i64 0, .int .i64 0, .int .i64 0, .int .i64 0, .int .i64 0, .int .i64 0, .int .i64 0, .int .i64 0, .int .i64 0, .int .i64 0, .int .i64 0, .int .i64 0, .int .i64 0, .int .i64 0, .int .i64 0, .int .i64 0, .int .i64 0, .int .i64 0, .int .i64 0, .int .i64 0, .int .i64 0, .int .i64 0, .int .i64 0, .int .i64 0, .int .i64 0, .int .i64 0, .int .i64 0, .int .i64 0, .int .i64 0, .int .i64 0, .int .i64 0, .int .i64 0, .int .i64 0, .int .i64 0, .int .i64 0, .int .i64 0, .int .i64 0, .int .i64 0, .int .i64 0, .int .i64 0, .int .i64 0, .int .i64 0, .int .i64 0, .int .i64 0, .int .i64 0, .int .i64 0, .int .i64 0, .int .i64 0, .int .i64 j3] zz5 ?_)
  | ((with_reducible refine gate_dst (N := 7) rfl ?_)
     refine boxnew ?hg (N := 7) ?hd (cs := #[.int .i64 0, .int .i64 0, .int .i64 0, .int .i64 0, .int .i64 0, .int .i64 0, .int .i64 0, .int .i64 0, .int .i64 0, .int .i64 0, .int .i64 0, .int .i64 0, .int .i64 0, .int .i64 0, .int .i64 0, .int .i64 0, .int .i64 0, .int .i64 0, .int .i64 0, .int .i64 0, .int .i64 0, .int .i64 0, .int .i64 0, .int .i64 0, .int .i64 0, .int .i64 0, .int .i64 0, .int .i64 0, .int .i64 0, .int .i64 0, .int .i64 0, .int .i64 0, .int .i64 0, .int .i64 0, .int .i64 0, .int .i64 0, .int .i64 0, .int .i64 0, .int .i64 0, .int .i64 0, .int .i64 0, .int .i64 0, .int .i64 0, .int .i64 0, .int .i64 0, .int .i64 0, .int .i64 0, .int .i64 0, .int .i64 0, .int .i64 0, .int .i64 0, .int .i64 0, .int .i64 0, .int .i64 0, .int .i64 0, .int .i64 0, .int .i64 0, .int .i64 0, .int .i64 0, .int .i64 0, .int .i64 0, .int .i64 0, .int .i64 0, .int .i64 0, .int .i64 0, .int .i64 j3]) (t := 141) ?hr ?_; (case hd => rfl); (case hg => rfl); (case hr => first | (go_simp; done) | (go_simp; rfl))
     intro g hge w1 hbox hu
     have n_HU := Aside0.mk ((zz7 : Upd None0 w _).trans hu (fun _ h => h.elim))
     have GE := Aside0.mk (Nat.le_trans (zz7 : Upd None0 w _).size hge)
     clear HU; have HU := n_HU; clear n_HU hu hge
     have BK := Aside0.mk hbox; clear hbox))
 go_ret
 refine ⟨_, rfl, ⟨.inr GE.out, _, by (with_reducible repeat (first | refine blk_drewN ?_ _ | refine blk_drew ?_ | refine blk_alloc ?_ _)); exact BK.out, ⟨rfl, zz16⟩, fun i x h => by simp at h, rfl, ?_, zz19, ?_, fun x h => by simp at h⟩, zz7⟩
 ·
  rw [Int.toNat_of_nonneg J3.out.1]; rfl
 ·
  have := J3.out; omega
theorem stack_take (g most : Nat) (left : List Int) (S : Nat → Prop) (w : World) (hS : Sk w S g most left) :
 Calls Try.prog 71 #[.pointer (some ⟨g, 0, none⟩)] w fun e w' => e = .returned (.int .i64 (Mxm.tk left).2) ∧ Sk w' S g most (Mxm.tk left).1 ∧ Upd S w w' := by
 match left with
 | [] => exact stack_take0 g most S w hS
 | x :: r =>
   by_cases h : x = 0
   ·
    subst h
    exact stack_takeZ g most r S w hS
   ·
    have e : Mxm.tk (x :: r) = ((x - 1) :: r, 0) := by simp [Mxm.tk, h]
    rw [e]
    exact stack_take1 g most x r S w hS h
theorem stack_leave (g most : Nat) (left : List Int) (S : Nat → Prop) (w : World) (hS : Sk w S g most left) :
 Calls Try.prog 56 #[.pointer (some ⟨g, 0, none⟩)] w fun e w' => e = .returned (.bool (Mxm.lv left).2) ∧ Sk w' S g most (Mxm.lv left).1 ∧ Upd S w w' := by
 match left with
 | [] => exact stack_leave0 g most S w hS
 | x :: r =>
   have hx := (by obtain ⟨_, _, _, _, _, _, _, _, _, hn⟩ := hS; exact hn x zz19 : 0 ≤ x ∧ _)
   by_cases h : x = 0
   ·
    subst h
    exact stack_leaveZ g most r S w hS
   ·
    have e : Mxm.lv (x :: r) = (x :: r, false) := by simp [Mxm.lv, h]
    rw [e]
    exact stack_leave1 g most x r S w hS zz4
theorem stack_enter (g most : Nat) (left : List Int) (n : Int) (S : Nat → Prop) (w : World) (hS : Sk w S g most left) (hn0 : 0 ≤ n) (hn1 : n ≤ 4611686018427387904) :
 Calls Try.prog 88 #[.pointer (some ⟨g, 0, none⟩), .int .i64 n] w fun e w' => e = .returned (.int .i64 (Mxm.en most left n).2) ∧ Sk w' S g most (Mxm.en most left n).1 ∧ Upd S w w' := by
 have hl : left.length ≤ most := by obtain ⟨_, _, _, _, _, _, _, hl, _⟩ := hS; exact hl
 match left with
 | [] =>
   by_cases h : most = 0
   ·
    have e : Mxm.en most [] n = ([], 10) := by simp [Mxm.en, h]
    rw [e]
    exact stack_enterDz g most n S w hS hn0 h
   ·
    have e : Mxm.en most [] n = ([n], 0) := by simp [Mxm.en, Ne.symm h]
    rw [e]
    exact stack_enter0 g most n S w hS hn0 hn1 zz4
 | x :: r =>
   by_cases h : x < n
   ·
    have e : Mxm.en most (x :: r) n = (x :: r, 5) := by simp [Mxm.en, h]
    rw [e]
    exact stack_enterF g most x n r S w hS hn0 h
   ·
    by_cases h2 : r.length + 1 = most
    ·
     have e : Mxm.en most (x :: r) n = (x :: r, 10) := by simp [Mxm.en, h, h2]
     rw [e]
     exact stack_enterD g most x n r S w hS hn0 zz4 h2
    ·
     have e : Mxm.en most (x :: r) n = (n :: (x - n) :: r, 0) := by simp [Mxm.en, h, h2]
     rw [e]
     simp at hl
     exact stack_enter1 g most x n r S w hS hn0 zz4 zz4
theorem stack_leftQ (g most : Nat) (x : Int) (r : List Int) (S : Nat → Prop) (w : World) (hS : Sk w S g most (x :: r)) :
 Calls Try.prog 87 #[.pointer (some ⟨g, 0, none⟩)] w fun e w' => e = .returned (.int .i64 x) ∧ ∃ m, w' = w.drewN m :=
 (stack_left1 g most x r S w hS).mono fun _ _ ⟨he, hw⟩ => ⟨he, 1, hw⟩
theorem stack_enterE (g most : Nat) (left l2 : List Int) (n e2 : Int) (S : Nat → Prop) (w : World) (hS : Sk w S g most left) (hn0 : 0 ≤ n) (hn1 : n ≤ 2305843009213693951) (he : Mxm.en most left n = (l2, e2)) :
 Calls Try.prog 88 #[.pointer (some ⟨g, 0, none⟩), .int .i64 n] w fun e w' => e = .returned (.int .i64 e2) ∧ Sk w' S g most l2 ∧ Upd S w w' := by
 have h := stack_enter g most left n S w hS hn0 zz4
 rw [he] at h
 exact h
theorem stack_takeE (g most : Nat) (left l2 : List Int) (e2 : Int) (S : Nat → Prop) (w : World) (hS : Sk w S g most left) (he : Mxm.tk left = (l2, e2)) :
 Calls Try.prog 71 #[.pointer (some ⟨g, 0, none⟩)] w fun e w' => e = .returned (.int .i64 e2) ∧ Sk w' S g most l2 ∧ Upd S w w' := by
 have h := stack_take g most left S w hS
 rw [he] at h
 exact h
end Go.Proofs.Ytcfommconnlhgaa.PC
namespace Go.Proofs.Ytcfommconnlhgaa.PC
open RowKit YtcfommconnlhgaaW.PrintWords YtcfommconnlhgaaW.PrintLast YtcfommconnlhgaaW.PrintMore
attribute [local go_sem] max2_int min2_int max_two min_two max_three min_three max_four min_four
set_option linter.unusedVariables false
set_option linter.unusedSimpArgs false
open Own
abbrev Hd := S32
abbrev Ev := S34
def h0 : Hd := ⟨0, 0, false, 0⟩
def ev (kind at_ : Int) (h : Hd) (b : Int) : Ev := ⟨kind, at_, h, b⟩
structure St where
 left : List Int
 came : List Int
 leaf : Int
 at_ : Int
 begun : Bool
 over : Int
def init0 : St := ⟨[], [], 0, 0, false, 0⟩
def done (s : St) : Bool := s.begun && ((s.left.length : Int) == 0) && (s.leaf == 0) && ((s.came.length : Int) == 0)
def takeM (s : St) : St := { s with left := (Mxm.tk s.left).1 }
def ends (s : St) (n : Int) : List Ev := if n = 0 then [ev 4 s.at_ h0 0] else []
def contentM (s : St) (b : Int) : St × List Ev :=
 ({ takeM s with leaf := s.leaf - 1 }, ev 3 s.at_ h0 b :: ends s (s.leaf - 1))
def beginM (most : Nat) (s : St) (h : Hd) : St × List Ev × Int :=
 if 0 < (s.left.length : Int) ∧ s.left.headD 0 < h.f3 then (s, [], 5)
 else if h.f2 = true then
  (if (Mxm.en most s.left h.f3).2 ≠ 0 then ({ s with came := [], left := (Mxm.en most s.left h.f3).1 }, [], (Mxm.en most s.left h.f3).2)
   else ({ s with came := [], left := (Mxm.en most s.left h.f3).1, begun := true }, [ev 1 s.at_ h 0], 0))
 else ({ s with came := [], leaf := h.f3, begun := true }, ev 2 s.at_ h 0 :: ends s h.f3, 0)
def hd (l : List Int) : Hd := ⟨(Hdm.hg l).1, (Hdm.hg l).2.1, (Hdm.hg l).2.2.1, (Hdm.hg l).2.2.2.1⟩
def er (l : List Int) : Int := (Hdm.hg l).2.2.2.2.2
def stepM (most : Nat) (s : St) (b : Int) : St × List Ev × Int :=
 if 0 < s.leaf then ((contentM s b).1, (contentM s b).2, 0)
 else if (Mxm.tk s.left).2 ≠ 0 then (takeM s, [], (Mxm.tk s.left).2)
 else if er (s.came ++ [b]) = 2 then ({ takeM s with came := s.came ++ [b] }, [], 0)
 else if er (s.came ++ [b]) ≠ 0 then ({ takeM s with came := s.came ++ [b] }, [], er (s.came ++ [b]))
 else beginM most { takeM s with came := s.came ++ [b] } (hd (s.came ++ [b]))
def exits (at_ : Int) : List Int → List Int × List Ev
 | [] => ([], [])
 | x :: r => if x = 0 then ((exits at_ r).1, ev 5 at_ h0 0 :: (exits at_ r).2) else (x :: r, [])
def closeM (s : St) : St × List Ev :=
 if s.leaf = 0 ∧ s.came = [] then ({ s with left := (exits s.at_ s.left).1, at_ := s.at_ + 1 }, (exits s.at_ s.left).2) else ({ s with at_ := s.at_ + 1 }, [])
def pushM (most : Nat) (s : St) (b : Int) : St × List Ev × Int :=
 if s.over ≠ 0 then (s, [], s.over)
 else if done s = true then ({ s with over := 6 }, [], 6)
 else if (stepM most s b).2.2 ≠ 0 then ({ (stepM most s b).1 with over := (stepM most s b).2.2 }, [], (stepM most s b).2.2)
 else ((closeM (stepM most s b).1).1, (stepM most s b).2.1 ++ (closeM (stepM most s b).1).2, 0)
def runM (most : Nat) : St → List Int → Int → List Ev → List Ev × Int × Int
 | s, [], i, acc => (acc, if done s = true then 0 else 2, i)
 | s, b :: r, i, acc => if (pushM most s b).2.2 ≠ 0 then (acc, (pushM most s b).2.2, i) else runM most (pushM most s b).1 r (i + 1) (acc ++ (pushM most s b).2.1)
def wholeM (most : Nat) (l : List Int) : List Ev × Int × Int := runM most init0 l 0 []
end Go.Proofs.Ytcfommconnlhgaa.PC
namespace Go.Proofs.Ytcfommconnlhgaa.PC
open RowKit YtcfommconnlhgaaW.PrintWords YtcfommconnlhgaaW.PrintLast YtcfommconnlhgaaW.PrintMore
attribute [local go_sem] max2_int min2_int max_two min_two max_three min_three max_four min_four
set_option linter.unusedVariables false
set_option linter.unusedSimpArgs false
open Own
theorem infoU8 : (Try.prog.info? 5).map (fun i => (i.zero, i.size, i.bytes)) = some (some (.int .u8 0), 1, 1) := by kernel_rfl
def Rd (w : World) (S : Nat → Prop) (g : Nat) (came : List Int) (over : Int) : Prop :=
 S g ∧ ∃ v, w.heap[g]? = some (.cells #[v, .int .i64 over] 143 (0, 0)) ∧ (Kd.int .u8).R 5 w 0 S v came
theorem Rd.upd {w W : World} {S T : Nat → Prop} {g : Nat} {came : List Int} {over : Int} (h : Rd w S g came over) (hu : Upd T w W) (hd : ∀ k, S k → ¬ T k) : Rd W S g came over := by
 obtain ⟨hg, v, hb, hr⟩ := h
 exact ⟨hg, v, hu.blk hb (hd g hg), row_upd hr hu hd⟩
theorem Rd.mono {w : World} {S S' : Nat → Prop} {g : Nat} {came : List Int} {over : Int} (h : Rd w S g came over) (hs : ∀ k, S k → S' k) : Rd w S' g came over := by
 obtain ⟨hg, v, hb, hr⟩ := h
 exact ⟨hs g hg, v, hb, row_mono hr hs⟩
theorem Rd.old {w : World} {S : Nat → Prop} {g : Nat} {came : List Int} {over : Int} (h : Rd w S g came over) : Rd w (fun k => S k ∧ k < w.heap.size) g came over := by
 obtain ⟨hg, v, hb, hr⟩ := h
 exact ⟨⟨hg, blk_lt hb⟩, v, hb, row_old hr⟩
theorem Rd.bnd {w : World} {S : Nat → Prop} {g : Nat} {came : List Int} {over : Int} (h : Rd w S g came over) : Rd w (Bnd w [143, 5] S) g came over := by
 obtain ⟨hg, v, hb, hr⟩ := h
 exact ⟨Bnd.blk hg hb zz8, v, hb, Bnd.row hr zz8⟩
theorem Rd.drew {w : World} {S : Nat → Prop} {g : Nat} {came : List Int} {over : Int} (h : Rd w S g came over) : Rd w.drew S g came over := h.upd (Upd.drew (Upd.refl None0 w)) (fun _ _ h => h)
theorem Rd.drewN {w : World} {S : Nat → Prop} {g : Nat} {came : List Int} {over : Int} (h : Rd w S g came over) (n : Nat) : Rd (w.drewN n) S g came over := h.upd (Upd.drewN (Upd.refl None0 w) n) (fun _ _ h => h)
theorem Rd.alloc {w : World} {S : Nat → Prop} {g : Nat} {came : List Int} {over : Int} (h : Rd w S g came over) (o : Obj) : Rd (w.alloc o) S g came over := h.upd (Upd.alloc (Upd.refl None0 w) o) (fun _ _ h => h)
theorem Rd.updN {w W : World} {S : Nat → Prop} {g : Nat} {came : List Int} {over : Int} (h : Rd w S g came over) (hu : Upd None0 w W) : Rd W S g came over := h.upd hu (fun _ _ h => h)
theorem Rd.updT {w W : World} {S : Nat → Prop} {g : Nat} {came : List Int} {over : Int} (h : Rd w S g came over) {g' t : Nat} {cs : Array Value} (hb : w.heap[g']? = some (.cells cs t (0, 0))) (ht : ∀ q, q ∈ [143, 5] → q ≠ t) (hu : Upd (fun k => k = g') w W) : Rd W S g came over := (h.bnd.upd hu (Bnd.ne_one hb ht)).mono Bnd.of
theorem Rd.updR {w W : World} {S : Nat → Prop} {g : Nat} {came : List Int} {over : Int} {T : Nat → Prop} {α : Type} {d : Kd α} {e : Nat} {v' : Value} {xs : List α} (h : Rd w S g came over) (hr : d.R e w 0 T v' xs) (ht : ∀ q, q ∈ [143, 5] → q ≠ e) (hu : Upd (fun k => some k = v'.ownBlock) w W) : Rd W S g came over := (h.bnd.upd hu (Bnd.ne_row hr ht)).mono Bnd.of
theorem Rd.updB {w W : World} {S : Nat → Prop} {g : Nat} {came : List Int} {over : Int} {T : Nat → Prop} {E' : List Nat} (h : Rd w S g came over) (hu : Upd (Bnd w E' T) w W) (hE : ∀ q, q ∈ [143, 5] → q ∉ E') : Rd W S g came over := (h.bnd.upd hu (fun k h1 h2 => bnd_apart hE h1 h2)).mono Bnd.of
set_option maxHeartbeats 4000000 in
set_option maxRecDepth 100000 in
theorem reader_ok (k : Nat) (g : Nat) (came came2 : List Int) (b t1 t2 : Int) (t3 : Bool) (t4 t5 t6 : Int) (S : Nat → Prop) (w : World) (hR : Rd w S g came 0) (hl : came.length ≤ 100000) (hx : came ++ [b] = came2) (h : head_Get.f k (strOfNums came2) 0 = some (t1, t2, t3, t4, t5, 0)) :
 Calls Try.prog 72 #[.pointer (some ⟨g, 0, none⟩), .int .u8 b] w fun e w' => e = .returned (.tuple #[.agg #[.int .i64 t1, .int .i64 t2, .bool t3, .int .i64 t4], .bool true, .int .i64 0]) ∧ Rd w' (New w S) g [] 0 ∧ Upd S w w' := by
 obtain ⟨hg, v, hb0, hr0⟩ := hR
 obtain ⟨A0, c0, rfl⟩ := Kd.R_slice hr0
 have HU := Aside0.mk (Upd.refl S w)
 have IN_G := Aside0.mk hg
 have B_G := Aside0.mk hb0
 have R_C := Aside0.mk (row_mono hr0 (fun k h => (.inl h : New w S k)))
 have hu_ := Try.underlying32
 clear hg hb0 hr0
 have HG := Aside0.mk h
 have HX := Aside0.mk hx
 have HL := Aside0.mk hl
 clear h hx hl
 have hcE : ∀ W : World, True := fun _ => trivial
 clear hcE
 have hc_G_1 := co B_G 1 (.int .i64 0) rfl
 clear hc_G_1
 go_enter Try.func72, Try.ntmps72
 go_wp2_with (first
  | ((with_reducible refine gate_dst (N := 4) rfl ?_)
     refine boxnew ?hg (N := 4) ?hd (cs := #[.int .i64 0, .int .i64 0, .bool false, .int .i64 0]) (t := 32) ?hr ?_; (case hd => rfl); (case hg => rfl); (case hr => first | (go_simp; done) | (go_simp; rfl))
     intro g_R hge w1 hbox hu
     have NE_G_R := Aside0.mk (blk_fresh zz3 hge)
     have GE_R := Aside0.mk (Nat.le_trans (zz7 : Upd S w _).size hge)
     replace B_G := Aside0.mk (hu.blk zz3 (fun h => h))
     replace R_C := Aside0.mk (row_upd zz15 hu (fun k hk h => h.elim))
     replace HU := Aside0.mk ((zz7 : Upd S w _).trans hu (fun _ h => h.elim))
     clear hu
     have B_R := Aside0.mk hbox; clear hbox hge
     have hc_G_0 := co B_G 0 (.slice A0 came.length c0) rfl; have hc_G_1 := co B_G 1 (.int .i64 0) rfl; have hc_R_0 := co B_R 0 (.int .i64 0) rfl; have hc_R_1 := co B_R 1 (.int .i64 0) rfl; have hc_R_2 := co B_R 2 (.bool false) rfl; have hc_R_3 := co B_R 3 (.int .i64 0) rfl)
  | ((with_reducible refine gate_builtin (b := .append) (xs := #[.tmp 24, .tmp 26]) rfl ?_); at_builtin
     refine row_append (Kd.int .u8) (S := (New w S)) rfl (.tmp 24) (.tmp 26) 124 5 (.int .u8 0) 1 rfl Try.underlying124 infoU8 rfl zz8 zz4 (.slice A0 came.length c0) (came) (b) [.int .u8 b] rfl rfl ?aP ?aO ?aL came2 HX.out ?_
     (case aP => exact rfl); (case aO => exact zz15); (case aL => (have := HL.out; omega))
     intro v2 w2 ho hu
     have ho2 := row_mono ho (New.later (zz7 : Upd S w _).size)
     replace B_G := Aside0.mk (hu.blk zz3 (Kd.R_ne R_C.out zz3 zz8))
     replace B_R := Aside0.mk (hu.blk zz21 (Kd.R_ne R_C.out zz21 zz8))
     replace HU := Aside0.mk ((zz7 : Upd S w _).trans hu (fun k hk => row_at R_C.out hk))
     clear hu
     obtain ⟨A_C2, c_C2, rfl⟩ := Kd.R_slice ho2
     clear R_C ho; have R_C := Aside0.mk ho2; clear ho2
     (try clear hc_G_0 hc_G_1 hc_R_0 hc_R_1 hc_R_2 hc_R_3)
     have hc_G_0 := co B_G 0 (.slice A0 came.length c0) rfl; have hc_G_1 := co B_G 1 (.int .i64 0) rfl; have hc_R_0 := co B_R 0 (.int .i64 0) rfl; have hc_R_1 := co B_R 1 (.int .i64 0) rfl; have hc_R_2 := co B_R 2 (.bool false) rfl; have hc_R_3 := co B_R 3 (.int .i64 0) rfl)
  | ((with_reducible refine gate_store (t := 124) (p := 29) (v := .tmp 27) rfl ?_)
     refine cellput rfl 124 (.tmp 29) (.tmp 27) rfl rfl g 0 (.slice A_C2 came2.length c_C2) rfl rfl 143 #[.slice A0 came.length c0, .int .i64 0] #[.slice A_C2 came2.length c_C2, .int .i64 0] zz3 zz5 zz19 rfl rfl ?_
     intro w3 hbox hu
     replace B_R := Aside0.mk (hu.blk zz21 (Ne.symm NE_G_R.out))
     replace R_C := Aside0.mk (row_updT zz15 zz3 zz8 hu)
     replace HU := Aside0.mk ((zz7 : Upd S w _).trans hu (fun k hk => .inl zz22))
     clear hu
     clear B_G; have B_G := Aside0.mk hbox; clear hbox
     (try clear hc_G_0 hc_G_1 hc_R_0 hc_R_1 hc_R_2 hc_R_3)
     have hc_G_0 := co B_G 0 (.slice A_C2 came2.length c_C2) rfl; have hc_G_1 := co B_G 1 (.int .i64 0) rfl; have hc_R_0 := co B_R 0 (.int .i64 0) rfl; have hc_R_1 := co B_R 1 (.int .i64 0) rfl; have hc_R_2 := co B_R 2 (.bool false) rfl; have hc_R_3 := co B_R 3 (.int .i64 0) rfl
     have hcv := own_string (P := Try.prog) Try.underlying124 Try.underlying5 Try.underlying9 (Kd.own_of_R R_C.out))
  | (go_at_call 86
     (with_reducible refine (head_Get.calls k (strOfNums came2) 0 t1 t2 t3 t4 t5 0 _ HG.out).mono ?_)
     rintro e w4 ⟨rfl, hb⟩
     have hu := (Upd.of_below hb : Upd None0 _ _)
     replace B_G := Aside0.mk (hu.blk zz3 (fun h => h))
     replace B_R := Aside0.mk (hu.blk zz21 (fun h => h))
     replace R_C := Aside0.mk (row_upd zz15 hu (fun k hk h => h.elim))
     replace HU := Aside0.mk ((zz7 : Upd S w _).trans hu (fun _ h => h.elim))
     clear hu
     (try clear hc_G_0 hc_G_1 hc_R_0 hc_R_1 hc_R_2 hc_R_3)
     have hc_G_0 := co B_G 0 (.slice A_C2 came2.length c_C2) rfl; have hc_G_1 := co B_G 1 (.int .i64 0) rfl; have hc_R_0 := co B_R 0 (.int .i64 0) rfl; have hc_R_1 := co B_R 1 (.int .i64 0) rfl; have hc_R_2 := co B_R 2 (.bool false) rfl; have hc_R_3 := co B_R 3 (.int .i64 0) rfl)
  | ((with_reducible refine gate_dst (N := 7) rfl ?_)
     refine boxnew ?hg (N := 7) ?hd (cs := #[.int .i64 0, .int .i64 0, .bool false, .int .i64 0]) (t := 32) ?hr ?_; (case hd => rfl); (case hg => rfl); (case hr => first | (go_simp; done) | (go_simp; rfl))
     intro g_H hge w5 hbox hu
     have NE_G_H := Aside0.mk (blk_fresh zz3 hge)
     have NE_H_R := Aside0.mk (Ne.symm (blk_fresh zz21 hge))
     have GE_H := Aside0.mk (Nat.le_trans (zz7 : Upd S w _).size hge)
     replace B_G := Aside0.mk (hu.blk zz3 (fun h => h))
     replace B_R := Aside0.mk (hu.blk zz21 (fun h => h))
     replace R_C := Aside0.mk (row_upd zz15 hu (fun k hk h => h.elim))
     replace HU := Aside0.mk ((zz7 : Upd S w _).trans hu (fun _ h => h.elim))
     clear hu
     have B_H := Aside0.mk hbox; clear hbox hge
     (try clear hc_G_0 hc_G_1 hc_R_0 hc_R_1 hc_R_2 hc_R_3)
     have hc_G_0 := co B_G 0 (.slice A_C2 came2.length c_C2) rfl; have hc_G_1 := co B_G 1 (.int .i64 0) rfl; have hc_R_0 := co B_R 0 (.int .i64 0) rfl; have hc_R_1 := co B_R 1 (.int .i64 0) rfl; have hc_R_2 := co B_R 2 (.bool false) rfl; have hc_R_3 := co B_R 3 (.int .i64 0) rfl; have hc_H_0 := co B_H 0 (.int .i64 0) rfl; have hc_H_1 := co B_H 1 (.int .i64 0) rfl; have hc_H_2 := co B_H 2 (.bool false) rfl; have hc_H_3 := co B_H 3 (.int .i64 0) rfl)
  | ((with_reducible refine gate_store (t := 32) (p := 7) (v := .tmp 37) rfl ?_)
     refine rowput rfl 32 (.tmp 7) (.tmp 37) rfl rfl g_H #[.int .i64 t1, .int .i64 t2, .bool t3, .int .i64 t4] rfl rfl 32 #[.int .i64 0, .int .i64 0, .bool false, .int .i64 0] zz18 zz5 rfl zz16 ?_
     intro w6 hbox hu
     replace B_G := Aside0.mk (hu.blk zz3 NE_G_H.out)
     replace B_R := Aside0.mk (hu.blk zz21 (Ne.symm NE_H_R.out))
     replace R_C := Aside0.mk (row_updT zz15 zz18 zz8 hu)
     replace HU := Aside0.mk ((zz7 : Upd S w _).trans hu (fun k hk => .inr zz30))
     clear hu
     clear B_H; have B_H := Aside0.mk hbox; clear hbox
     (try clear hc_G_0 hc_G_1 hc_R_0 hc_R_1 hc_R_2 hc_R_3 hc_H_0 hc_H_1 hc_H_2 hc_H_3)
     have hc_G_0 := co B_G 0 (.slice A_C2 came2.length c_C2) rfl; have hc_G_1 := co B_G 1 (.int .i64 0) rfl; have hc_R_0 := co B_R 0 (.int .i64 0) rfl; have hc_R_1 := co B_R 1 (.int .i64 0) rfl; have hc_R_2 := co B_R 2 (.bool false) rfl; have hc_R_3 := co B_R 3 (.int .i64 0) rfl; have hc_H_0 := co B_H 0 (.int .i64 t1) rfl; have hc_H_1 := co B_H 1 (.int .i64 t2) rfl; have hc_H_2 := co B_H 2 (.bool t3) rfl; have hc_H_3 := co B_H 3 (.int .i64 t4) rfl)
  | ((with_reducible refine gate_store (t := 124) (p := 50) (v := .tmp 48) rfl ?_)
     refine cellput rfl 124 (.tmp 50) (.tmp 48) rfl rfl g 0 (.slice A_C2 0 c_C2) rfl rfl 143 #[.slice A_C2 came2.length c_C2, .int .i64 0] #[.slice A_C2 0 c_C2, .int .i64 0] zz3 zz5 zz19 rfl rfl ?_
     intro w7 hbox hu
     replace B_R := Aside0.mk (hu.blk zz21 (Ne.symm NE_G_R.out))
     replace B_H := Aside0.mk (hu.blk zz18 (Ne.symm NE_G_H.out))
     replace R_C := Aside0.mk (row_updT zz15 zz3 zz8 hu)
     replace HU := Aside0.mk ((zz7 : Upd S w _).trans hu (fun k hk => .inl zz22))
     clear hu
     clear B_G; have B_G := Aside0.mk hbox; clear hbox
     (try clear hc_G_0 hc_G_1 hc_R_0 hc_R_1 hc_R_2 hc_R_3 hc_H_0 hc_H_1 hc_H_2 hc_H_3)
     have hc_G_0 := co B_G 0 (.slice A_C2 0 c_C2) rfl; have hc_G_1 := co B_G 1 (.int .i64 0) rfl; have hc_R_0 := co B_R 0 (.int .i64 0) rfl; have hc_R_1 := co B_R 1 (.int .i64 0) rfl; have hc_R_2 := co B_R 2 (.bool false) rfl; have hc_R_3 := co B_R 3 (.int .i64 0) rfl; have hc_H_0 := co B_H 0 (.int .i64 t1) rfl; have hc_H_1 := co B_H 1 (.int .i64 t2) rfl; have hc_H_2 := co B_H 2 (.bool t3) rfl; have hc_H_3 := co B_H 3 (.int .i64 t4) rfl)
  | ((with_reducible refine gate_store (t := 32) (p := 4) (v := .tmp 51) rfl ?_)
     refine rowput rfl 32 (.tmp 4) (.tmp 51) rfl rfl g_R #[.int .i64 t1, .int .i64 t2, .bool t3, .int .i64 t4] rfl rfl 32 #[.int .i64 0, .int .i64 0, .bool false, .int .i64 0] zz21 zz5 rfl zz16 ?_
     intro w8 hbox hu
     replace B_G := Aside0.mk (hu.blk zz3 NE_G_R.out)
     replace B_H := Aside0.mk (hu.blk zz18 NE_H_R.out)
     replace R_C := Aside0.mk (row_updT zz15 zz21 zz8 hu)
     replace HU := Aside0.mk ((zz7 : Upd S w _).trans hu (fun k hk => .inr (by rw [hk]; exact GE_R.out)))
     clear hu
     clear B_R; have B_R := Aside0.mk hbox; clear hbox
     (try clear hc_G_0 hc_G_1 hc_R_0 hc_R_1 hc_R_2 hc_R_3 hc_H_0 hc_H_1 hc_H_2 hc_H_3)
     have hc_G_0 := co B_G 0 (.slice A_C2 0 c_C2) rfl; have hc_G_1 := co B_G 1 (.int .i64 0) rfl; have hc_R_0 := co B_R 0 (.int .i64 t1) rfl; have hc_R_1 := co B_R 1 (.int .i64 t2) rfl; have hc_R_2 := co B_R 2 (.bool t3) rfl; have hc_R_3 := co B_R 3 (.int .i64 t4) rfl; have hc_H_0 := co B_H 0 (.int .i64 t1) rfl; have hc_H_1 := co B_H 1 (.int .i64 t2) rfl; have hc_H_2 := co B_H 2 (.bool t3) rfl; have hc_H_3 := co B_H 3 (.int .i64 t4) rfl))
 refine bodyPost_ret (results_ctt rfl _ _ g_R 32 #[.int .i64 t1, .int .i64 t2, .bool t3, .int .i64 t4] (0, 0) _ rfl zz21 Try.underlying32 rfl zz5) rfl ?_
 exact ⟨rfl, ⟨.inl IN_G.out, _, zz3, Kd.R_take (m := 0) R_C.out (Nat.zero_le _)⟩, zz7⟩
set_option maxHeartbeats 4000000 in
set_option maxRecDepth 100000 in
theorem reader_cut (k : Nat) (g : Nat) (came came2 : List Int) (b t1 t2 : Int) (t3 : Bool) (t4 t5 t6 : Int) (S : Nat → Prop) (w : World) (hR : Rd w S g came 0) (hl : came.length ≤ 100000) (hx : came ++ [b] = came2) (h : head_Get.f k (strOfNums came2) 0 = some (t1, t2, t3, t4, t5, 2)) :
 Calls Try.prog 72 #[.pointer (some ⟨g, 0, none⟩), .int .u8 b] w fun e w' => e = .returned (.tuple #[.agg #[.int .i64 0, .int .i64 0, .bool false, .int .i64 0], .bool false, .int .i64 0]) ∧ Rd w' (New w S) g came2 0 ∧ Upd S w w' := by
 obtain ⟨hg, v, hb0, hr0⟩ := hR
 obtain ⟨A0, c0, rfl⟩ := Kd.R_slice hr0
 have HU := Aside0.mk (Upd.refl S w)
 have IN_G := Aside0.mk hg
 have B_G := Aside0.mk hb0
 have R_C := Aside0.mk (row_mono hr0 (fun k h => (.inl h : New w S k)))
 have hu_ := Try.underlying32
 clear hg hb0 hr0
 have HG := Aside0.mk h
 have HX := Aside0.mk hx
 have HL := Aside0.mk hl
 clear h hx hl
 have hcE : ∀ W : World, True := fun _ => trivial
 clear hcE
 have hc_G_1 := co B_G 1 (.int .i64 0) rfl
 clear hc_G_1
 go_enter Try.func72, Try.ntmps72
 go_wp2_with (first
  | ((with_reducible refine gate_dst (N := 4) rfl ?_)
     refine boxnew ?hg (N := 4) ?hd (cs := #[.int .i64 0, .int .i64 0, .bool false, .int .i64 0]) (t := 32) ?hr ?_; (case hd => rfl); (case hg => rfl); (case hr => first | (go_simp; done) | (go_simp; rfl))
     intro g_R hge w1 hbox hu
     have NE_G_R := Aside0.mk (blk_fresh zz3 hge)
     have GE_R := Aside0.mk (Nat.le_trans (zz7 : Upd S w _).size hge)
     replace B_G := Aside0.mk (hu.blk zz3 (fun h => h))
     replace R_C := Aside0.mk (row_upd zz15 hu (fun k hk h => h.elim))
     replace HU := Aside0.mk ((zz7 : Upd S w _).trans hu (fun _ h => h.elim))
     clear hu
     have B_R := Aside0.mk hbox; clear hbox hge
     have hc_G_0 := co B_G 0 (.slice A0 came.length c0) rfl; have hc_G_1 := co B_G 1 (.int .i64 0) rfl; have hc_R_0 := co B_R 0 (.int .i64 0) rfl; have hc_R_1 := co B_R 1 (.int .i64 0) rfl; have hc_R_2 := co B_R 2 (.bool false) rfl; have hc_R_3 := co B_R 3 (.int .i64 0) rfl)
  | ((with_reducible refine gate_builtin (b := .append) (xs := #[.tmp 24, .tmp 26]) rfl ?_); at_builtin
     refine row_append (Kd.int .u8) (S := (New w S)) rfl (.tmp 24) (.tmp 26) 124 5 (.int .u8 0) 1 rfl Try.underlying124 infoU8 rfl zz8 zz4 (.slice A0 came.length c0) (came) (b) [.int .u8 b] rfl rfl ?aP ?aO ?aL came2 HX.out ?_
     (case aP => exact rfl); (case aO => exact zz15); (case aL => (have := HL.out; omega))
     intro v2 w2 ho hu
     have ho2 := row_mono ho (New.later (zz7 : Upd S w _).size)
     replace B_G := Aside0.mk (hu.blk zz3 (Kd.R_ne R_C.out zz3 zz8))
     replace B_R := Aside0.mk (hu.blk zz21 (Kd.R_ne R_C.out zz21 zz8))
     replace HU := Aside0.mk ((zz7 : Upd S w _).trans hu (fun k hk => row_at R_C.out hk))
     clear hu
     obtain ⟨A_C2, c_C2, rfl⟩ := Kd.R_slice ho2
     clear R_C ho; have R_C := Aside0.mk ho2; clear ho2
     (try clear hc_G_0 hc_G_1 hc_R_0 hc_R_1 hc_R_2 hc_R_3)
     have hc_G_0 := co B_G 0 (.slice A0 came.length c0) rfl; have hc_G_1 := co B_G 1 (.int .i64 0) rfl; have hc_R_0 := co B_R 0 (.int .i64 0) rfl; have hc_R_1 := co B_R 1 (.int .i64 0) rfl; have hc_R_2 := co B_R 2 (.bool false) rfl; have hc_R_3 := co B_R 3 (.int .i64 0) rfl)
  | ((with_reducible refine gate_store (t := 124) (p := 29) (v := .tmp 27) rfl ?_)
     refine cellput rfl 124 (.tmp 29) (.tmp 27) rfl rfl g 0 (.slice A_C2 came2.length c_C2) rfl rfl 143 #[.slice A0 came.length c0, .int .i64 0] #[.slice A_C2 came2.length c_C2, .int .i64 0] zz3 zz5 zz19 rfl rfl ?_
     intro w3 hbox hu
     replace B_R := Aside0.mk (hu.blk zz21 (Ne.symm NE_G_R.out))
     replace R_C := Aside0.mk (row_updT zz15 zz3 zz8 hu)
     replace HU := Aside0.mk ((zz7 : Upd S w _).trans hu (fun k hk => .inl zz22))
     clear hu
     clear B_G; have B_G := Aside0.mk hbox; clear hbox
     (try clear hc_G_0 hc_G_1 hc_R_0 hc_R_1 hc_R_2 hc_R_3)
     have hc_G_0 := co B_G 0 (.slice A_C2 came2.length c_C2) rfl; have hc_G_1 := co B_G 1 (.int .i64 0) rfl; have hc_R_0 := co B_R 0 (.int .i64 0) rfl; have hc_R_1 := co B_R 1 (.int .i64 0) rfl; have hc_R_2 := co B_R 2 (.bool false) rfl; have hc_R_3 := co B_R 3 (.int .i64 0) rfl
     have hcv := own_string (P := Try.prog) Try.underlying124 Try.underlying5 Try.underlying9 (Kd.own_of_R R_C.out))
  | (go_at_call 86
     (with_reducible refine (head_Get.calls k (strOfNums came2) 0 t1 t2 t3 t4 t5 2 _ HG.out).mono ?_)
     rintro e w4 ⟨rfl, hb⟩
     have hu := (Upd.of_below hb : Upd None0 _ _)
     replace B_G := Aside0.mk (hu.blk zz3 (fun h => h))
     replace B_R := Aside0.mk (hu.blk zz21 (fun h => h))
     replace R_C := Aside0.mk (row_upd zz15 hu (fun k hk h => h.elim))
     replace HU := Aside0.mk ((zz7 : Upd S w _).trans hu (fun _ h => h.elim))
     clear hu
     (try clear hc_G_0 hc_G_1 hc_R_0 hc_R_1 hc_R_2 hc_R_3)
     have hc_G_0 := co B_G 0 (.slice A_C2 came2.length c_C2) rfl; have hc_G_1 := co B_G 1 (.int .i64 0) rfl; have hc_R_0 := co B_R 0 (.int .i64 0) rfl; have hc_R_1 := co B_R 1 (.int .i64 0) rfl; have hc_R_2 := co B_R 2 (.bool false) rfl; have hc_R_3 := co B_R 3 (.int .i64 0) rfl)
  | ((with_reducible refine gate_dst (N := 7) rfl ?_)
     refine boxnew ?hg (N := 7) ?hd (cs := #[.int .i64 0, .int .i64 0, .bool false, .int .i64 0]) (t := 32) ?hr ?_; (case hd => rfl); (case hg => rfl); (case hr => first | (go_simp; done) | (go_simp; rfl))
     intro g_H hge w5 hbox hu
     have NE_G_H := Aside0.mk (blk_fresh zz3 hge)
     have NE_H_R := Aside0.mk (Ne.symm (blk_fresh zz21 hge))
     have GE_H := Aside0.mk (Nat.le_trans (zz7 : Upd S w _).size hge)
     replace B_G := Aside0.mk (hu.blk zz3 (fun h => h))
     replace B_R := Aside0.mk (hu.blk zz21 (fun h => h))
     replace R_C := Aside0.mk (row_upd zz15 hu (fun k hk h => h.elim))
     replace HU := Aside0.mk ((zz7 : Upd S w _).trans hu (fun _ h => h.elim))
     clear hu
     have B_H := Aside0.mk hbox; clear hbox hge
     (try clear hc_G_0 hc_G_1 hc_R_0 hc_R_1 hc_R_2 hc_R_3)
     have hc_G_0 := co B_G 0 (.slice A_C2 came2.length c_C2) rfl; have hc_G_1 := co B_G 1 (.int .i64 0) rfl; have hc_R_0 := co B_R 0 (.int .i64 0) rfl; have hc_R_1 := co B_R 1 (.int .i64 0) rfl; have hc_R_2 := co B_R 2 (.bool false) rfl; have hc_R_3 := co B_R 3 (.int .i64 0) rfl; have hc_H_0 := co B_H 0 (.int .i64 0) rfl; have hc_H_1 := co B_H 1 (.int .i64 0) rfl; have hc_H_2 := co B_H 2 (.bool false) rfl; have hc_H_3 := co B_H 3 (.int .i64 0) rfl)
  | ((with_reducible refine gate_store (t := 32) (p := 7) (v := .tmp 37) rfl ?_)
     refine rowput rfl 32 (.tmp 7) (.tmp 37) rfl rfl g_H #[.int .i64 t1, .int .i64 t2, .bool t3, .int .i64 t4] rfl rfl 32 #[.int .i64 0, .int .i64 0, .bool false, .int .i64 0] zz18 zz5 rfl zz16 ?_
     intro w6 hbox hu
     replace B_G := Aside0.mk (hu.blk zz3 NE_G_H.out)
     replace B_R := Aside0.mk (hu.blk zz21 (Ne.symm NE_H_R.out))
     replace R_C := Aside0.mk (row_updT zz15 zz18 zz8 hu)
     replace HU := Aside0.mk ((zz7 : Upd S w _).trans hu (fun k hk => .inr zz30))
     clear hu
     clear B_H; have B_H := Aside0.mk hbox; clear hbox
     (try clear hc_G_0 hc_G_1 hc_R_0 hc_R_1 hc_R_2 hc_R_3 hc_H_0 hc_H_1 hc_H_2 hc_H_3)
     have hc_G_0 := co B_G 0 (.slice A_C2 came2.length c_C2) rfl; have hc_G_1 := co B_G 1 (.int .i64 0) rfl; have hc_R_0 := co B_R 0 (.int .i64 0) rfl; have hc_R_1 := co B_R 1 (.int .i64 0) rfl; have hc_R_2 := co B_R 2 (.bool false) rfl; have hc_R_3 := co B_R 3 (.int .i64 0) rfl; have hc_H_0 := co B_H 0 (.int .i64 t1) rfl; have hc_H_1 := co B_H 1 (.int .i64 t2) rfl; have hc_H_2 := co B_H 2 (.bool t3) rfl; have hc_H_3 := co B_H 3 (.int .i64 t4) rfl)
  | ((with_reducible refine gate_store (t := 32) (p := 4) (v := .tmp 54) rfl ?_)
     refine rowput rfl 32 (.tmp 4) (.tmp 54) rfl rfl g_R #[.int .i64 0, .int .i64 0, .bool false, .int .i64 0] rfl rfl 32 #[.int .i64 0, .int .i64 0, .bool false, .int .i64 0] zz21 zz5 rfl zz16 ?_
     intro w7 hbox hu
     replace B_G := Aside0.mk (hu.blk zz3 NE_G_R.out)
     replace B_H := Aside0.mk (hu.blk zz18 NE_H_R.out)
     replace R_C := Aside0.mk (row_updT zz15 zz21 zz8 hu)
     replace HU := Aside0.mk ((zz7 : Upd S w _).trans hu (fun k hk => .inr (by rw [hk]; exact GE_R.out)))
     clear hu
     clear B_R; have B_R := Aside0.mk hbox; clear hbox
     (try clear hc_G_0 hc_G_1 hc_R_0 hc_R_1 hc_R_2 hc_R_3 hc_H_0 hc_H_1 hc_H_2 hc_H_3)
     have hc_G_0 := co B_G 0 (.slice A_C2 came2.length c_C2) rfl; have hc_G_1 := co B_G 1 (.int .i64 0) rfl; have hc_R_0 := co B_R 0 (.int .i64 0) rfl; have hc_R_1 := co B_R 1 (.int .i64 0) rfl; have hc_R_2 := co B_R 2 (.bool false) rfl; have hc_R_3 := co B_R 3 (.int .i64 0) rfl; have hc_H_0 := co B_H 0 (.int .i64 t1) rfl; have hc_H_1 := co B_H 1 (.int .i64 t2) rfl; have hc_H_2 := co B_H 2 (.bool t3) rfl; have hc_H_3 := co B_H 3 (.int .i64 t4) rfl))
 refine bodyPost_ret (results_ctt rfl _ _ g_R 32 #[.int .i64 0, .int .i64 0, .bool false, .int .i64 0] (0, 0) _ rfl zz21 Try.underlying32 rfl zz5) rfl ?_
 exact ⟨rfl, ⟨.inl IN_G.out, _, zz3, R_C.out⟩, zz7⟩
set_option maxHeartbeats 4000000 in
set_option maxRecDepth 100000 in
theorem reader_err (k : Nat) (g : Nat) (came came2 : List Int) (b t1 t2 : Int) (t3 : Bool) (t4 t5 t6 : Int) (S : Nat → Prop) (w : World) (hR : Rd w S g came 0) (hl : came.length ≤ 100000) (hx : came ++ [b] = came2) (h : head_Get.f k (strOfNums came2) 0 = some (t1, t2, t3, t4, t5, t6)) (h0 : t6 ≠ 0) (h2 : t6 ≠ 2) :
 Calls Try.prog 72 #[.pointer (some ⟨g, 0, none⟩), .int .u8 b] w fun e w' => e = .returned (.tuple #[.agg #[.int .i64 0, .int .i64 0, .bool false, .int .i64 0], .bool false, .int .i64 t6]) ∧ Rd w' (New w S) g came2 t6 ∧ Upd S w w' := by
 obtain ⟨hg, v, hb0, hr0⟩ := hR
 obtain ⟨A0, c0, rfl⟩ := Kd.R_slice hr0
 have HU := Aside0.mk (Upd.refl S w)
 have IN_G := Aside0.mk hg
 have B_G := Aside0.mk hb0
 have R_C := Aside0.mk (row_mono hr0 (fun k h => (.inl h : New w S k)))
 have hu_ := Try.underlying32
 clear hg hb0 hr0
 have HG := Aside0.mk h
 have HX := Aside0.mk hx
 have HL := Aside0.mk hl
 clear h hx hl
 have c1 : (t6 == 0) = false := beq_eq_false_iff_ne.2 h0
 have c2 : (t6 == 2) = false := beq_eq_false_iff_ne.2 h2
 clear h0 h2
 have hcE : ∀ W : World, True := fun _ => trivial
 clear hcE
 have hc_G_1 := co B_G 1 (.int .i64 0) rfl
 clear hc_G_1
 go_enter Try.func72, Try.ntmps72
 go_wp2_with (first
  | ((with_reducible refine gate_dst (N := 4) rfl ?_)
     refine boxnew ?hg (N := 4) ?hd (cs := #[.int .i64 0, .int .i64 0, .bool false, .int .i64 0]) (t := 32) ?hr ?_; (case hd => rfl); (case hg => rfl); (case hr => first | (go_simp; done) | (go_simp; rfl))
     intro g_R hge w1 hbox hu
     have NE_G_R := Aside0.mk (blk_fresh zz3 hge)
     have GE_R := Aside0.mk (Nat.le_trans (zz7 : Upd S w _).size hge)
     replace B_G := Aside0.mk (hu.blk zz3 (fun h => h))
     replace R_C := Aside0.mk (row_upd zz15 hu (fun k hk h => h.elim))
     replace HU := Aside0.mk ((zz7 : Upd S w _).trans hu (fun _ h => h.elim))
     clear hu
     have B_R := Aside0.mk hbox; clear hbox hge
     have hc_G_0 := co B_G 0 (.slice A0 came.length c0) rfl; have hc_G_1 := co B_G 1 (.int .i64 0) rfl; have hc_R_0 := co B_R 0 (.int .i64 0) rfl; have hc_R_1 := co B_R 1 (.int .i64 0) rfl; have hc_R_2 := co B_R 2 (.bool false) rfl; have hc_R_3 := co B_R 3 (.int .i64 0) rfl)
  | ((with_reducible refine gate_builtin (b := .append) (xs := #[.tmp 24, .tmp 26]) rfl ?_); at_builtin
     refine row_append (Kd.int .u8) (S := (New w S)) rfl (.tmp 24) (.tmp 26) 124 5 (.int .u8 0) 1 rfl Try.underlying124 infoU8 rfl zz8 zz4 (.slice A0 came.length c0) (came) (b) [.int .u8 b] rfl rfl ?aP ?aO ?aL came2 HX.out ?_
     (case aP => exact rfl); (case aO => exact zz15); (case aL => (have := HL.out; omega))
     intro v2 w2 ho hu
     have ho2 := row_mono ho (New.later (zz7 : Upd S w _).size)
     replace B_G := Aside0.mk (hu.blk zz3 (Kd.R_ne R_C.out zz3 zz8))
     replace B_R := Aside0.mk (hu.blk zz21 (Kd.R_ne R_C.out zz21 zz8))
     replace HU := Aside0.mk ((zz7 : Upd S w _).trans hu (fun k hk => row_at R_C.out hk))
     clear hu
     obtain ⟨A_C2, c_C2, rfl⟩ := Kd.R_slice ho2
     clear R_C ho; have R_C := Aside0.mk ho2; clear ho2
     (try clear hc_G_0 hc_G_1 hc_R_0 hc_R_1 hc_R_2 hc_R_3)
     have hc_G_0 := co B_G 0 (.slice A0 came.length c0) rfl; have hc_G_1 := co B_G 1 (.int .i64 0) rfl; have hc_R_0 := co B_R 0 (.int .i64 0) rfl; have hc_R_1 := co B_R 1 (.int .i64 0) rfl; have hc_R_2 := co B_R 2 (.bool false) rfl; have hc_R_3 := co B_R 3 (.int .i64 0) rfl)
  | ((with_reducible refine gate_store (t := 124) (p := 29) (v := .tmp 27) rfl ?_)
     refine cellput rfl 124 (.tmp 29) (.tmp 27) rfl rfl g 0 (.slice A_C2 came2.length c_C2) rfl rfl 143 #[.slice A0 came.length c0, .int .i64 0] #[.slice A_C2 came2.length c_C2, .int .i64 0] zz3 zz5 zz19 rfl rfl ?_
     intro w3 hbox hu
     replace B_R := Aside0.mk (hu.blk zz21 (Ne.symm NE_G_R.out))
     replace R_C := Aside0.mk (row_updT zz15 zz3 zz8 hu)
     replace HU := Aside0.mk ((zz7 : Upd S w _).trans hu (fun k hk => .inl zz22))
     clear hu
     clear B_G; have B_G := Aside0.mk hbox; clear hbox
     (try clear hc_G_0 hc_G_1 hc_R_0 hc_R_1 hc_R_2 hc_R_3)
     have hc_G_0 := co B_G 0 (.slice A_C2 came2.length c_C2) rfl; have hc_G_1 := co B_G 1 (.int .i64 0) rfl; have hc_R_0 := co B_R 0 (.int .i64 0) rfl; have hc_R_1 := co B_R 1 (.int .i64 0) rfl; have hc_R_2 := co B_R 2 (.bool false) rfl; have hc_R_3 := co B_R 3 (.int .i64 0) rfl
     have hcv := own_string (P := Try.prog) Try.underlying124 Try.underlying5 Try.underlying9 (Kd.own_of_R R_C.out))
  | (go_at_call 86
     (with_reducible refine (head_Get.calls k (strOfNums came2) 0 t1 t2 t3 t4 t5 t6 _ HG.out).mono ?_)
     rintro e w4 ⟨rfl, hb⟩
     have hu := (Upd.of_below hb : Upd None0 _ _)
     replace B_G := Aside0.mk (hu.blk zz3 (fun h => h))
     replace B_R := Aside0.mk (hu.blk zz21 (fun h => h))
     replace R_C := Aside0.mk (row_upd zz15 hu (fun k hk h => h.elim))
     replace HU := Aside0.mk ((zz7 : Upd S w _).trans hu (fun _ h => h.elim))
     clear hu
     (try clear hc_G_0 hc_G_1 hc_R_0 hc_R_1 hc_R_2 hc_R_3)
     have hc_G_0 := co B_G 0 (.slice A_C2 came2.length c_C2) rfl; have hc_G_1 := co B_G 1 (.int .i64 0) rfl; have hc_R_0 := co B_R 0 (.int .i64 0) rfl; have hc_R_1 := co B_R 1 (.int .i64 0) rfl; have hc_R_2 := co B_R 2 (.bool false) rfl; have hc_R_3 := co B_R 3 (.int .i64 0) rfl)
  | ((with_reducible refine gate_dst (N := 7) rfl ?_)
     refine boxnew ?hg (N := 7) ?hd (cs := #[.int .i64 0, .int .i64 0, .bool false, .int .i64 0]) (t := 32) ?hr ?_; (case hd => rfl); (case hg => rfl); (case hr => first | (go_simp; done) | (go_simp; rfl))
     intro g_H hge w5 hbox hu
     have NE_G_H := Aside0.mk (blk_fresh zz3 hge)
     have NE_H_R := Aside0.mk (Ne.symm (blk_fresh zz21 hge))
     have GE_H := Aside0.mk (Nat.le_trans (zz7 : Upd S w _).size hge)
     replace B_G := Aside0.mk (hu.blk zz3 (fun h => h))
     replace B_R := Aside0.mk (hu.blk zz21 (fun h => h))
     replace R_C := Aside0.mk (row_upd zz15 hu (fun k hk h => h.elim))
     replace HU := Aside0.mk ((zz7 : Upd S w _).trans hu (fun _ h => h.elim))
     clear hu
     have B_H := Aside0.mk hbox; clear hbox hge
     (try clear hc_G_0 hc_G_1 hc_R_0 hc_R_1 hc_R_2 hc_R_3)
     have hc_G_0 := co B_G 0 (.slice A_C2 came2.length c_C2) rfl; have hc_G_1 := co B_G 1 (.int .i64 0) rfl; have hc_R_0 := co B_R 0 (.int .i64 0) rfl; have hc_R_1 := co B_R 1 (.int .i64 0) rfl; have hc_R_2 := co B_R 2 (.bool false) rfl; have hc_R_3 := co B_R 3 (.int .i64 0) rfl; have hc_H_0 := co B_H 0 (.int .i64 0) rfl; have hc_H_1 := co B_H 1 (.int .i64 0) rfl; have hc_H_2 := co B_H 2 (.bool false) rfl; have hc_H_3 := co B_H 3 (.int .i64 0) rfl)
  | ((with_reducible refine gate_store (t := 32) (p := 7) (v := .tmp 37) rfl ?_)
     refine rowput rfl 32 (.tmp 7) (.tmp 37) rfl rfl g_H #[.int .i64 t1, .int .i64 t2, .bool t3, .int .i64 t4] rfl rfl 32 #[.int .i64 0, .int .i64 0, .bool false, .int .i64 0] zz18 zz5 rfl zz16 ?_
     intro w6 hbox hu
     replace B_G := Aside0.mk (hu.blk zz3 NE_G_H.out)
     replace B_R := Aside0.mk (hu.blk zz21 (Ne.symm NE_H_R.out))
     replace R_C := Aside0.mk (row_updT zz15 zz18 zz8 hu)
     replace HU := Aside0.mk ((zz7 : Upd S w _).trans hu (fun k hk => .inr zz30))
     clear hu
     clear B_H; have B_H := Aside0.mk hbox; clear hbox
     (try clear hc_G_0 hc_G_1 hc_R_0 hc_R_1 hc_R_2 hc_R_3 hc_H_0 hc_H_1 hc_H_2 hc_H_3)
     have hc_G_0 := co B_G 0 (.slice A_C2 came2.length c_C2) rfl; have hc_G_1 := co B_G 1 (.int .i64 0) rfl; have hc_R_0 := co B_R 0 (.int .i64 0) rfl; have hc_R_1 := co B_R 1 (.int .i64 0) rfl; have hc_R_2 := co B_R 2 (.bool false) rfl; have hc_R_3 := co B_R 3 (.int .i64 0) rfl; have hc_H_0 := co B_H 0 (.int .i64 t1) rfl; have hc_H_1 := co B_H 1 (.int .i64 t2) rfl; have hc_H_2 := co B_H 2 (.bool t3) rfl; have hc_H_3 := co B_H 3 (.int .i64 t4) rfl)
  | ((with_reducible refine gate_store (t := 35) (p := 58) (v := .tmp 56) rfl ?_)
     refine cellput rfl 35 (.tmp 58) (.tmp 56) rfl rfl g 1 (.int .i64 t6) rfl rfl 143 #[.slice A_C2 came2.length c_C2, .int .i64 0] #[.slice A_C2 came2.length c_C2, .int .i64 t6] zz3 zz5 zz19 rfl rfl ?_
     intro w7 hbox hu
     replace B_R := Aside0.mk (hu.blk zz21 (Ne.symm NE_G_R.out))
     replace B_H := Aside0.mk (hu.blk zz18 (Ne.symm NE_G_H.out))
     replace R_C := Aside0.mk (row_updT zz15 zz3 zz8 hu)
     replace HU := Aside0.mk ((zz7 : Upd S w _).trans hu (fun k hk => .inl zz22))
     clear hu
     clear B_G; have B_G := Aside0.mk hbox; clear hbox
     (try clear hc_G_0 hc_G_1 hc_R_0 hc_R_1 hc_R_2 hc_R_3 hc_H_0 hc_H_1 hc_H_2 hc_H_3)
     have hc_G_0 := co B_G 0 (.slice A_C2 came2.length c_C2) rfl; have hc_G_1 := co B_G 1 (.int .i64 t6) rfl; have hc_R_0 := co B_R 0 (.int .i64 0) rfl; have hc_R_1 := co B_R 1 (.int .i64 0) rfl; have hc_R_2 := co B_R 2 (.bool false) rfl; have hc_R_3 := co B_R 3 (.int .i64 0) rfl; have hc_H_0 := co B_H 0 (.int .i64 t1) rfl; have hc_H_1 := co B_H 1 (.int .i64 t2) rfl; have hc_H_2 := co B_H 2 (.bool t3) rfl; have hc_H_3 := co B_H 3 (.int .i64 t4) rfl)
  | ((with_reducible refine gate_store (t := 32) (p := 4) (v := .tmp 59) rfl ?_)
     refine rowput rfl 32 (.tmp 4) (.tmp 59) rfl rfl g_R #[.int .i64 0, .int .i64 0, .bool false, .int .i64 0] rfl rfl 32 #[.int .i64 0, .int .i64 0, .bool false, .int .i64 0] zz21 zz5 rfl zz16 ?_
     intro w8 hbox hu
     replace B_G := Aside0.mk (hu.blk zz3 NE_G_R.out)
     replace B_H := Aside0.mk (hu.blk zz18 NE_H_R.out)
     replace R_C := Aside0.mk (row_updT zz15 zz21 zz8 hu)
     replace HU := Aside0.mk ((zz7 : Upd S w _).trans hu (fun k hk => .inr (by rw [hk]; exact GE_R.out)))
     clear hu
     clear B_R; have B_R := Aside0.mk hbox; clear hbox
     (try clear hc_G_0 hc_G_1 hc_R_0 hc_R_1 hc_R_2 hc_R_3 hc_H_0 hc_H_1 hc_H_2 hc_H_3)
     have hc_G_0 := co B_G 0 (.slice A_C2 came2.length c_C2) rfl; have hc_G_1 := co B_G 1 (.int .i64 t6) rfl; have hc_R_0 := co B_R 0 (.int .i64 0) rfl; have hc_R_1 := co B_R 1 (.int .i64 0) rfl; have hc_R_2 := co B_R 2 (.bool false) rfl; have hc_R_3 := co B_R 3 (.int .i64 0) rfl; have hc_H_0 := co B_H 0 (.int .i64 t1) rfl; have hc_H_1 := co B_H 1 (.int .i64 t2) rfl; have hc_H_2 := co B_H 2 (.bool t3) rfl; have hc_H_3 := co B_H 3 (.int .i64 t4) rfl))
 refine bodyPost_ret (results_ctt rfl _ _ g_R 32 #[.int .i64 0, .int .i64 0, .bool false, .int .i64 0] (0, 0) _ rfl zz21 Try.underlying32 rfl zz5) rfl ?_
 exact ⟨rfl, ⟨.inl IN_G.out, _, zz3, R_C.out⟩, zz7⟩
set_option maxHeartbeats 4000000 in
set_option maxRecDepth 100000 in
theorem reader_new (w : World) : Calls Try.prog 54 #[] w fun e w' => ∃ g : Nat, e = .returned (.pointer (some ⟨g, 0, none⟩)) ∧ Rd w' (New w None0) g [] 0 ∧ Upd None0 w w' := by
 have HU := Aside0.mk (Upd.refl None0 w)
 have hu_ := Try.underlying143
 go_enter Try.func54, Try.ntmps54
 go_wp2_with (first
  | ((with_reducible refine gate_dst (N := 2) rfl ?_)
     refine boxnew ?hg (N := 2) ?hd (cs := #[.slice none 0 0, .int .i64 0]) (t := 143) ?hr ?_; (case hd => rfl); (case hg => rfl); (case hr => first | (go_simp; done) | (go_simp; rfl))
     intro g_G hge w1 hbox hu
     have GE_G := Aside0.mk (Nat.le_trans (zz7 : Upd None0 w _).size hge)
     replace HU := Aside0.mk ((zz7 : Upd None0 w _).trans hu (fun _ h => h.elim))
     clear hu
     have B_G := Aside0.mk hbox; clear hbox hge
     have hc_G_0 := co B_G 0 (.slice none 0 0) rfl; have hc_G_1 := co B_G 1 (.int .i64 0) rfl))
 go_ret
 exact ⟨_, rfl, ⟨.inr GE_G.out, _, zz3, Kd.R_nil _ _ _ _ _⟩, zz7⟩
end Go.Proofs.Ytcfommconnlhgaa.PC
