/- The reference for events: a primitive element. -/
import Derived.Test.YtomaajagncjiiaaPCx0
import Derived.Test.YtomaajagncjiiaaPCx11
import Derived.Test.YtomaajagncjiiaaZA
import Derived.Outline
namespace Go.Proofs.Ytomaajagncjiiaa.PC
open Go.RowKit Go.Proofs.YtomaajagncjiiaaW.PrintWords Go.Proofs.YtomaajagncjiiaaW.PrintLast Go.Proofs.YtomaajagncjiiaaW.PrintMore Go.Proofs.Ytomaajagncjiiaa.Own
attribute [local go_sem] max2_int min2_int max_two min_two max_three min_three max_four min_four
set_option linter.unusedVariables false
set_option linter.unusedSimpArgs false
/-- What the walk needs of start. -/
def StartT (a : ByteArray) (T : Int → Int → Hd × Int × Int) : Prop := ∀ (p en : Int) (w : World), 0 ≤ p → p ≤ a.size → -1 ≤ en → en ≤ 2305843009213694999 → Calls Try.prog 33 #[.string a, .int .i64 p, .int .i64 en] w fun e w' => e = .returned (.tuple #[.agg #[.int .i64 (T p en).1.f0, .int .i64 (T p en).1.f1, .bool (T p en).1.f2, .int .i64 (T p en).1.f3], .int .i64 (T p en).2.1, .int .i64 (T p en).2.2]) ∧ Below w.heap.size w w'
set_option maxHeartbeats 8000000 in
set_option maxRecDepth 100000 in
theorem elem_leaf (a : ByteArray) (A : Option Addr) (c : Nat) (l : List Ev) (p en op most t1 t2 : Int) (t3 : Bool) (t4 la er : Int) (w : World) (hC : Cs w A l) (hc : l.length ≤ c) (hl : l.length ≤ 10000) (hs : a.size ≤ 700) (hp0 : 0 ≤ p) (hp1 : p ≤ a.size) (hn0 : -1 ≤ en) (hn1 : en ≤ 2305843009213694999) (ho0 : 0 ≤ op) (ho1 : op ≤ 64) (hm0 : 0 ≤ most) (hm1 : most ≤ 64) (hst : ∀ w, Calls Try.prog 33 #[.string a, .int .i64 p, .int .i64 en] w fun e w' => e = .returned (.tuple #[.agg #[.int .i64 t1, .int .i64 t2, .bool t3, .int .i64 t4], .int .i64 la, .int .i64 er]) ∧ Below w.heap.size w w') (r1 : List Ev) (r2 r3 : Int) (he : er = 0) (hla0 : 0 ≤ la) (hla1 : la ≤ 700) (ht0 : 0 ≤ t4) (ht1 : t4 ≤ 2305843009213693951) (hla2 : la + 1 ≤ a.size) (hb : ¬ (0 ≤ en ∧ en - (la + 1) < t4)) (h3 : t3 = false) (hr : lfM a (l ++ [ev 2 la ⟨t1, t2, t3, t4⟩ 0]) (la + 1) t4 = (r1, r2, r3)) :
    Calls Try.prog 23 #[.string a, .slice A l.length c, .int .i64 p, .int .i64 en, .int .i64 op, .int .i64 most] w fun e w' => ∃ A2 c2, e = .returned (.agg #[.slice A2 r1.length c2, .int .i64 r2, .int .i64 r3]) ∧ Cs w' A2 r1 ∧ r1.length ≤ c2 ∧ Below w.heap.size w w' := by
  have P_l := Aside0.mk hC
  have LC := Aside0.mk hc
  have HU := Aside0.mk (Upd.refl None0 w)
  have HS := Aside0.mk hst
  have LL := Aside0.mk (show l.length ≤ 1000000 by omega)
  have hcase : (decide (0 ≤ en) = true ∧ decide (en - (la + 1) < t4) = false) ∨ (decide (0 ≤ en) = false ∧ True) := by
    by_cases hb0 : 0 ≤ en
    · exact .inl ⟨decide_eq_true hb0, decide_eq_false (fun h => hb ⟨hb0, h⟩)⟩
    · exact .inr ⟨decide_eq_false hb0, trivial⟩
  subst he
  clear hb
  obtain ⟨m, hm⟩ : ∃ q, l ++ [ev 2 la ⟨t1, t2, t3, t4⟩ 0] = q := ⟨_, rfl⟩
  rw [hm] at hr
  have X2 := Aside0.mk (show l ++ [(⟨2, la, ⟨t1, t2, t3, t4⟩, 0⟩ : Ev)] = m from hm)
  have XL := Aside0.mk hr
  have HZ := Aside0.mk hs
  have LA := Aside0.mk hla2
  have LM := Aside0.mk (show m.length ≤ 100000 by rw [← hm, List.length_append]; simp; omega)
  have y4 : (!t3) = true := by rw [h3]; rfl
  clear hm hr h3
  clear hC hc hst hl
  go_enter Try.func23, Try.ntmps23
  rcases hcase with ⟨y2, y3⟩ | ⟨y2, y3⟩
  all_goals
    go_wp2_with (first
      | ((with_reducible refine gate_dst (N := 12) rfl ?_)
         refine boxnew ?hg (N := 12) ?hd (cs := #[.slice none 0 0, .int .i64 0, .int .i64 0]) (t := 29) ?hr ?_; (case hd => rfl); (case hg => rfl); (case hr => first | (go_simp; done) | (go_simp; rfl))
         intro g_t hge w1 hbox hu
         have GE_t := Aside0.mk (Nat.le_trans ((by exact ul HU) : Upd None0 w _).size hge)
         replace P_l := Aside0.mk (Cs.updN (by exact P_l.out.updN lu) hu)
         replace HU := Aside0.mk (((by exact ul HU) : Upd None0 w _).trans hu (fun _ h => h.elim))
         clear hu
         have B_t := Aside0.mk hbox; clear hbox hge
         have hc_t_0 := co B_t 0 (.slice none 0 0) rfl; have hc_t_1 := co B_t 1 (.int .i64 0) rfl; have hc_t_2 := co B_t 2 (.int .i64 0) rfl)
      | (go_at_call 33
         (with_reducible refine (HS.out _).mono ?_)
         rintro e w2 ⟨rfl, hb⟩
         have hu := (Upd.of_below hb : Upd None0 _ _)
         replace B_t := Aside0.mk (hu.blk (by exact bl B_t) (fun h => h))
         replace P_l := Aside0.mk (Cs.updN (by exact P_l.out.updN lu) hu)
         replace HU := Aside0.mk (((by exact ul HU) : Upd None0 w _).trans hu (fun _ h => h.elim))
         clear hu
         (try clear hc_t_0 hc_t_1 hc_t_2)
         have hc_t_0 := co B_t 0 (.slice none 0 0) rfl; have hc_t_1 := co B_t 1 (.int .i64 0) rfl; have hc_t_2 := co B_t 2 (.int .i64 0) rfl)
      | ((with_reducible refine gate_dst (N := 13) rfl ?_)
         refine boxnew ?hg (N := 13) ?hd (cs := #[.int .i64 0, .int .i64 0, .bool false, .int .i64 0]) (t := 34) ?hr ?_; (case hd => rfl); (case hg => rfl); (case hr => first | (go_simp; done) | (go_simp; rfl))
         intro g_H hge w3 hbox hu
         have NE_H_t := Aside0.mk (Ne.symm (blk_fresh (by exact bl B_t) hge))
         have GE_H := Aside0.mk (Nat.le_trans ((by exact ul HU) : Upd None0 w _).size hge)
         replace B_t := Aside0.mk (hu.blk (by exact bl B_t) (fun h => h))
         replace P_l := Aside0.mk (Cs.updN (by exact P_l.out.updN lu) hu)
         replace HU := Aside0.mk (((by exact ul HU) : Upd None0 w _).trans hu (fun _ h => h.elim))
         clear hu
         have B_H := Aside0.mk hbox; clear hbox hge
         (try clear hc_t_0 hc_t_1 hc_t_2)
         have hc_t_0 := co B_t 0 (.slice none 0 0) rfl; have hc_t_1 := co B_t 1 (.int .i64 0) rfl; have hc_t_2 := co B_t 2 (.int .i64 0) rfl; have hc_H_0 := co B_H 0 (.int .i64 0) rfl; have hc_H_1 := co B_H 1 (.int .i64 0) rfl; have hc_H_2 := co B_H 2 (.bool false) rfl; have hc_H_3 := co B_H 3 (.int .i64 0) rfl)
      | ((with_reducible refine gate_store (t := 34) (p := 13) (v := .tmp 23) rfl ?_)
         refine rowput rfl 34 (.tmp 13) (.tmp 23) rfl rfl g_H #[.int .i64 t1, .int .i64 t2, .bool t3, .int .i64 t4] rfl rfl 34 #[.int .i64 0, .int .i64 0, .bool false, .int .i64 0] (by exact bl B_H) (by kernel_rfl) rfl (by simp [Value.oneCell']) ?_
         intro w4 hbox hu
         replace B_t := Aside0.mk (hu.blk (by exact bl B_t) (Ne.symm NE_H_t.out))
         replace P_l := Aside0.mk (Cs.updT (by exact P_l.out.updN lu) (by exact bl B_H) (by decide) hu)
         replace HU := Aside0.mk (((by exact ul HU) : Upd None0 w _).trans hu (fun k hk => .inr (by rw [hk]; exact GE_H.out)))
         clear hu
         clear B_H; have B_H := Aside0.mk hbox; clear hbox
         (try clear hc_t_0 hc_t_1 hc_t_2 hc_H_0 hc_H_1 hc_H_2 hc_H_3)
         have hc_t_0 := co B_t 0 (.slice none 0 0) rfl; have hc_t_1 := co B_t 1 (.int .i64 0) rfl; have hc_t_2 := co B_t 2 (.int .i64 0) rfl; have hc_H_0 := co B_H 0 (.int .i64 t1) rfl; have hc_H_1 := co B_H 1 (.int .i64 t2) rfl; have hc_H_2 := co B_H 2 (.bool t3) rfl; have hc_H_3 := co B_H 3 (.int .i64 t4) rfl))
    go_region_with (first
      | (go_at_call 35
         (with_reducible refine (and_any A c l _ 2 la t1 t2 t3 t4 0 _ (by exact P_l.out.updN lu) LC.out LL.out X2.out).mono ?_)
         rintro e w5 ⟨A_m, c_m, rfl, hC2, hle2, hb⟩
         have hu := (Upd.of_below hb : Upd None0 _ _)
         replace B_t := Aside0.mk (hu.blk (by exact bl B_t) (fun h => h))
         replace B_H := Aside0.mk (hu.blk (by exact bl B_H) (fun h => h))
         replace P_l := Aside0.mk (Cs.updN (by exact P_l.out.updN lu) hu)
         replace HU := Aside0.mk (((by exact ul HU) : Upd None0 w _).trans hu (fun _ h => h.elim))
         clear hu
         have P_m := Aside0.mk hC2
         have L_m := Aside0.mk hle2
         clear hC2 hle2
         (try clear hc_t_0 hc_t_1 hc_t_2 hc_H_0 hc_H_1 hc_H_2 hc_H_3)
         have hc_t_0 := co B_t 0 (.slice none 0 0) rfl; have hc_t_1 := co B_t 1 (.int .i64 0) rfl; have hc_t_2 := co B_t 2 (.int .i64 0) rfl; have hc_H_0 := co B_H 0 (.int .i64 t1) rfl; have hc_H_1 := co B_H 1 (.int .i64 t2) rfl; have hc_H_2 := co B_H 2 (.bool t3) rfl; have hc_H_3 := co B_H 3 (.int .i64 t4) rfl)
      | (go_at_call 34
         (with_reducible refine (leaf_any a A_m c_m m r1 (la + 1) t4 r2 r3 _ (by exact P_m.out.updN lu) L_m.out LM.out HZ.out (by omega) LA.out (by omega) (by omega) XL.out).mono ?_)
         rintro e w6 ⟨A_q, c_q, rfl, hC2, hle2, hb⟩
         have hu := (Upd.of_below hb : Upd None0 _ _)
         replace B_t := Aside0.mk (hu.blk (by exact bl B_t) (fun h => h))
         replace B_H := Aside0.mk (hu.blk (by exact bl B_H) (fun h => h))
         replace P_m := Aside0.mk (Cs.updN (by exact P_m.out.updN lu) hu)
         replace HU := Aside0.mk (((by exact ul HU) : Upd None0 w _).trans hu (fun _ h => h.elim))
         clear hu
         have P_q := Aside0.mk hC2
         have L_q := Aside0.mk hle2
         clear hC2 hle2
         (try clear hc_t_0 hc_t_1 hc_t_2 hc_H_0 hc_H_1 hc_H_2 hc_H_3)
         have hf_t_0 : w6.frozen? ⟨g_t, 0, none⟩ = false := blk_frozen B_t.out 0; have hc_t_0 := co B_t 0 (.slice none 0 0) rfl; have hf_t_1 : w6.frozen? ⟨g_t, 1, none⟩ = false := blk_frozen B_t.out 1; have hc_t_1 := co B_t 1 (.int .i64 0) rfl; have hf_t_2 : w6.frozen? ⟨g_t, 2, none⟩ = false := blk_frozen B_t.out 2; have hc_t_2 := co B_t 2 (.int .i64 0) rfl; have hc_H_0 := co B_H 0 (.int .i64 t1) rfl; have hc_H_1 := co B_H 1 (.int .i64 t2) rfl; have hc_H_2 := co B_H 2 (.bool t3) rfl; have hc_H_3 := co B_H 3 (.int .i64 t4) rfl))
    all_goals (
      go_wp2
      have B9 := blk_set (blk_set (blk_set B_t.out 0 (.slice A_q r1.length c_q)) 1 (.int .i64 r2)) 2 (.int .i64 r3)
      have U9 := Upd.setCell (Upd.setCell (Upd.setCell (Upd.refl (fun k => k = g_t) w6) (j := 0) (.inl rfl) (.slice A_q r1.length c_q)) (j := 1) (.inl rfl) (.int .i64 r2)) (j := 2) (.inl rfl) (.int .i64 r3)
      refine bodyPost_ret (results_c rfl _ _ g_t 29 #[.slice A_q r1.length c_q, .int .i64 r2, .int .i64 r3] (0, 0) _ rfl (by first | exact B9 | (refine blk_drew ?_; exact B9)) Try.underlying29 rfl (by kernel_rfl)) rfl ?_
      exact ⟨_, _, rfl, P_q.out.updT B_t.out (by decide) U9, L_q.out, (HU.out.trans U9 (fun k hk => .inr (by rw [hk]; exact GE_t.out))).below0⟩)
end Go.Proofs.Ytomaajagncjiiaa.PC
