/- The reference for events: any element, by induction; a whole text. -/
import Derived.Test.YtomaajagncjiiaaPCx0
import Derived.Test.YtomaajagncjiiaaPCx11
import Derived.Test.YtomaajagncjiiaaZB
import Derived.Test.YtomaajagncjiiaaZC
import Derived.Outline
namespace Go.Proofs.Ytomaajagncjiiaa.PC
open Go.RowKit Go.Proofs.YtomaajagncjiiaaW.PrintWords Go.Proofs.YtomaajagncjiiaaW.PrintLast Go.Proofs.YtomaajagncjiiaaW.PrintMore Go.Proofs.Ytomaajagncjiiaa.Own
attribute [local go_sem] max2_int min2_int max_two min_two max_three min_three max_four min_four
set_option linter.unusedVariables false
set_option linter.unusedSimpArgs false
set_option maxHeartbeats 8000000 in
set_option maxRecDepth 100000 in
theorem elem_err (a : ByteArray) (A : Option Addr) (c : Nat) (l : List Ev) (p en op most t1 t2 : Int) (t3 : Bool) (t4 la er : Int) (w : World) (hC : Cs w A l) (hc : l.length ≤ c) (hl : l.length ≤ 10000) (hs : a.size ≤ 700) (hp0 : 0 ≤ p) (hp1 : p ≤ a.size) (hn0 : -1 ≤ en) (hn1 : en ≤ 2305843009213694999) (ho0 : 0 ≤ op) (ho1 : op ≤ 64) (hm0 : 0 ≤ most) (hm1 : most ≤ 64) (hst : ∀ w, Calls Try.prog 33 #[.string a, .int .i64 p, .int .i64 en] w fun e w' => e = .returned (.tuple #[.agg #[.int .i64 t1, .int .i64 t2, .bool t3, .int .i64 t4], .int .i64 la, .int .i64 er]) ∧ Below w.heap.size w w') (he : ¬ er = 0) :
    Calls Try.prog 23 #[.string a, .slice A l.length c, .int .i64 p, .int .i64 en, .int .i64 op, .int .i64 most] w fun e w' => ∃ A2 c2, e = .returned (.agg #[.slice A2 l.length c2, .int .i64 er, .int .i64 la]) ∧ Cs w' A2 l ∧ l.length ≤ c2 ∧ Below w.heap.size w w' := by
  have P_l := Aside0.mk hC
  have LC := Aside0.mk hc
  have HU := Aside0.mk (Upd.refl None0 w)
  have HS := Aside0.mk hst
  have LL := Aside0.mk (show l.length ≤ 1000000 by omega)
  have y1 : (er != 0) = true := bne_iff_ne.2 he
  clear hC hc hst hl
  go_enter Try.func23, Try.ntmps23
  go_wp2_with (first
    | ((with_reducible refine gate_dst (N := 12) rfl ?_)
       refine boxnew ?hg (N := 12) ?hd (cs := #[.slice none 0 0, .int .i64 0, .int .i64 0]) (t := 29) ?hr ?_; (case hd => rfl); (case hg => rfl); (case hr => first | (go_simp; done) | (go_simp; rfl))
       intro g_t hge w1 hbox hu
       have GE_t := Aside0.mk (Nat.le_trans ((by exact ul HU) : Upd None0 w _).size hge)
       replace P_l := Aside0.mk (Cs.updN (by exact P_l.out.updN lu) hu)
       replace HU := Aside0.mk (((by exact ul HU) : Upd None0 w _).trans hu (fun _ h => h.elim))
       clear hu
       have B_t := Aside0.mk hbox; clear hbox hge
       have hc_t_0 := co B_t 0 (.slice none 0 0) rfl; have hc_t_1 := co B_t 1 (.int .i64 0) rfl; have hc_t_2 := co B_t 2 (.int .i64 0) rfl)
    | (go_at_call 33
       (with_reducible refine (HS.out _).mono ?_)
       rintro e w2 ⟨rfl, hb⟩
       have hu := (Upd.of_below hb : Upd None0 _ _)
       replace B_t := Aside0.mk (hu.blk (by exact bl B_t) (fun h => h))
       replace P_l := Aside0.mk (Cs.updN (by exact P_l.out.updN lu) hu)
       replace HU := Aside0.mk (((by exact ul HU) : Upd None0 w _).trans hu (fun _ h => h.elim))
       clear hu
       (try clear hc_t_0 hc_t_1 hc_t_2)
       have hc_t_0 := co B_t 0 (.slice none 0 0) rfl; have hc_t_1 := co B_t 1 (.int .i64 0) rfl; have hc_t_2 := co B_t 2 (.int .i64 0) rfl)
    | ((with_reducible refine gate_dst (N := 13) rfl ?_)
       refine boxnew ?hg (N := 13) ?hd (cs := #[.int .i64 0, .int .i64 0, .bool false, .int .i64 0]) (t := 34) ?hr ?_; (case hd => rfl); (case hg => rfl); (case hr => first | (go_simp; done) | (go_simp; rfl))
       intro g_H hge w3 hbox hu
       have NE_H_t := Aside0.mk (Ne.symm (blk_fresh (by exact bl B_t) hge))
       have GE_H := Aside0.mk (Nat.le_trans ((by exact ul HU) : Upd None0 w _).size hge)
       replace B_t := Aside0.mk (hu.blk (by exact bl B_t) (fun h => h))
       replace P_l := Aside0.mk (Cs.updN (by exact P_l.out.updN lu) hu)
       replace HU := Aside0.mk (((by exact ul HU) : Upd None0 w _).trans hu (fun _ h => h.elim))
       clear hu
       have B_H := Aside0.mk hbox; clear hbox hge
       (try clear hc_t_0 hc_t_1 hc_t_2)
       have hc_t_0 := co B_t 0 (.slice none 0 0) rfl; have hc_t_1 := co B_t 1 (.int .i64 0) rfl; have hc_t_2 := co B_t 2 (.int .i64 0) rfl; have hc_H_0 := co B_H 0 (.int .i64 0) rfl; have hc_H_1 := co B_H 1 (.int .i64 0) rfl; have hc_H_2 := co B_H 2 (.bool false) rfl; have hc_H_3 := co B_H 3 (.int .i64 0) rfl)
    | ((with_reducible refine gate_store (t := 34) (p := 13) (v := .tmp 23) rfl ?_)
       refine rowput rfl 34 (.tmp 13) (.tmp 23) rfl rfl g_H #[.int .i64 t1, .int .i64 t2, .bool t3, .int .i64 t4] rfl rfl 34 #[.int .i64 0, .int .i64 0, .bool false, .int .i64 0] (by exact bl B_H) (by kernel_rfl) rfl (by simp [Value.oneCell']) ?_
       intro w4 hbox hu
       replace B_t := Aside0.mk (hu.blk (by exact bl B_t) (Ne.symm NE_H_t.out))
       replace P_l := Aside0.mk (Cs.updT (by exact P_l.out.updN lu) (by exact bl B_H) (by decide) hu)
       replace HU := Aside0.mk (((by exact ul HU) : Upd None0 w _).trans hu (fun k hk => .inr (by rw [hk]; exact GE_H.out)))
       clear hu
       clear B_H; have B_H := Aside0.mk hbox; clear hbox
       (try clear hc_t_0 hc_t_1 hc_t_2 hc_H_0 hc_H_1 hc_H_2 hc_H_3)
       have hc_t_0 := co B_t 0 (.slice none 0 0) rfl; have hc_t_1 := co B_t 1 (.int .i64 0) rfl; have hc_t_2 := co B_t 2 (.int .i64 0) rfl; have hc_H_0 := co B_H 0 (.int .i64 t1) rfl; have hc_H_1 := co B_H 1 (.int .i64 t2) rfl; have hc_H_2 := co B_H 2 (.bool t3) rfl; have hc_H_3 := co B_H 3 (.int .i64 t4) rfl)
    | ((with_reducible refine gate_store (t := 29) (p := 12) (v := .tmp 31) rfl ?_)
       refine rowput rfl 29 (.tmp 12) (.tmp 31) rfl rfl g_t #[.slice A l.length c, .int .i64 er, .int .i64 la] rfl rfl 29 #[.slice none 0 0, .int .i64 0, .int .i64 0] (by exact bl B_t) (by kernel_rfl) rfl (by simp [Value.oneCell']) ?_
       intro w5 hbox hu
       replace B_H := Aside0.mk (hu.blk (by exact bl B_H) NE_H_t.out)
       replace P_l := Aside0.mk (Cs.updT (by exact P_l.out.updN lu) (by exact bl B_t) (by decide) hu)
       replace HU := Aside0.mk (((by exact ul HU) : Upd None0 w _).trans hu (fun k hk => .inr (by rw [hk]; exact GE_t.out)))
       clear hu
       clear B_t; have B_t := Aside0.mk hbox; clear hbox
       (try clear hc_t_0 hc_t_1 hc_t_2 hc_H_0 hc_H_1 hc_H_2 hc_H_3)
       have hc_t_0 := co B_t 0 (.slice A l.length c) rfl; have hc_t_1 := co B_t 1 (.int .i64 er) rfl; have hc_t_2 := co B_t 2 (.int .i64 la) rfl; have hc_H_0 := co B_H 0 (.int .i64 t1) rfl; have hc_H_1 := co B_H 1 (.int .i64 t2) rfl; have hc_H_2 := co B_H 2 (.bool t3) rfl; have hc_H_3 := co B_H 3 (.int .i64 t4) rfl))
  refine bodyPost_ret (results_c rfl _ _ g_t 29 #[.slice A l.length c, .int .i64 er, .int .i64 la] (0, 0) _ rfl (by exact bl B_t) Try.underlying29 rfl (by kernel_rfl)) rfl ?_
  exact ⟨_, _, rfl, P_l.out, LC.out, HU.out.below0⟩
set_option maxHeartbeats 8000000 in
set_option maxRecDepth 100000 in
theorem elem_big (a : ByteArray) (A : Option Addr) (c : Nat) (l : List Ev) (p en op most t1 t2 : Int) (t3 : Bool) (t4 la er : Int) (w : World) (hC : Cs w A l) (hc : l.length ≤ c) (hl : l.length ≤ 10000) (hs : a.size ≤ 700) (hp0 : 0 ≤ p) (hp1 : p ≤ a.size) (hn0 : -1 ≤ en) (hn1 : en ≤ 2305843009213694999) (ho0 : 0 ≤ op) (ho1 : op ≤ 64) (hm0 : 0 ≤ most) (hm1 : most ≤ 64) (hst : ∀ w, Calls Try.prog 33 #[.string a, .int .i64 p, .int .i64 en] w fun e w' => e = .returned (.tuple #[.agg #[.int .i64 t1, .int .i64 t2, .bool t3, .int .i64 t4], .int .i64 la, .int .i64 er]) ∧ Below w.heap.size w w') (he : er = 0) (hla0 : 0 ≤ la) (hla1 : la ≤ 700) (ht0 : 0 ≤ t4) (ht1 : t4 ≤ 2305843009213693951) (hb0 : 0 ≤ en) (hb1 : en - (la + 1) < t4) :
    Calls Try.prog 23 #[.string a, .slice A l.length c, .int .i64 p, .int .i64 en, .int .i64 op, .int .i64 most] w fun e w' => ∃ A2 c2, e = .returned (.agg #[.slice A2 l.length c2, .int .i64 5, .int .i64 la]) ∧ Cs w' A2 l ∧ l.length ≤ c2 ∧ Below w.heap.size w w' := by
  have P_l := Aside0.mk hC
  have LC := Aside0.mk hc
  have HU := Aside0.mk (Upd.refl None0 w)
  have HS := Aside0.mk hst
  have LL := Aside0.mk (show l.length ≤ 1000000 by omega)
  subst he
  have y2 : decide (0 ≤ en) = true := decide_eq_true hb0
  have y3 : decide (en - (la + 1) < t4) = true := decide_eq_true hb1
  clear hC hc hst hl
  go_enter Try.func23, Try.ntmps23
  go_wp2_with (first
    | ((with_reducible refine gate_dst (N := 12) rfl ?_)
       refine boxnew ?hg (N := 12) ?hd (cs := #[.slice none 0 0, .int .i64 0, .int .i64 0]) (t := 29) ?hr ?_; (case hd => rfl); (case hg => rfl); (case hr => first | (go_simp; done) | (go_simp; rfl))
       intro g_t hge w1 hbox hu
       have GE_t := Aside0.mk (Nat.le_trans ((by exact ul HU) : Upd None0 w _).size hge)
       replace P_l := Aside0.mk (Cs.updN (by exact P_l.out.updN lu) hu)
       replace HU := Aside0.mk (((by exact ul HU) : Upd None0 w _).trans hu (fun _ h => h.elim))
       clear hu
       have B_t := Aside0.mk hbox; clear hbox hge
       have hc_t_0 := co B_t 0 (.slice none 0 0) rfl; have hc_t_1 := co B_t 1 (.int .i64 0) rfl; have hc_t_2 := co B_t 2 (.int .i64 0) rfl)
    | (go_at_call 33
       (with_reducible refine (HS.out _).mono ?_)
       rintro e w2 ⟨rfl, hb⟩
       have hu := (Upd.of_below hb : Upd None0 _ _)
       replace B_t := Aside0.mk (hu.blk (by exact bl B_t) (fun h => h))
       replace P_l := Aside0.mk (Cs.updN (by exact P_l.out.updN lu) hu)
       replace HU := Aside0.mk (((by exact ul HU) : Upd None0 w _).trans hu (fun _ h => h.elim))
       clear hu
       (try clear hc_t_0 hc_t_1 hc_t_2)
       have hc_t_0 := co B_t 0 (.slice none 0 0) rfl; have hc_t_1 := co B_t 1 (.int .i64 0) rfl; have hc_t_2 := co B_t 2 (.int .i64 0) rfl)
    | ((with_reducible refine gate_dst (N := 13) rfl ?_)
       refine boxnew ?hg (N := 13) ?hd (cs := #[.int .i64 0, .int .i64 0, .bool false, .int .i64 0]) (t := 34) ?hr ?_; (case hd => rfl); (case hg => rfl); (case hr => first | (go_simp; done) | (go_simp; rfl))
       intro g_H hge w3 hbox hu
       have NE_H_t := Aside0.mk (Ne.symm (blk_fresh (by exact bl B_t) hge))
       have GE_H := Aside0.mk (Nat.le_trans ((by exact ul HU) : Upd None0 w _).size hge)
       replace B_t := Aside0.mk (hu.blk (by exact bl B_t) (fun h => h))
       replace P_l := Aside0.mk (Cs.updN (by exact P_l.out.updN lu) hu)
       replace HU := Aside0.mk (((by exact ul HU) : Upd None0 w _).trans hu (fun _ h => h.elim))
       clear hu
       have B_H := Aside0.mk hbox; clear hbox hge
       (try clear hc_t_0 hc_t_1 hc_t_2)
       have hc_t_0 := co B_t 0 (.slice none 0 0) rfl; have hc_t_1 := co B_t 1 (.int .i64 0) rfl; have hc_t_2 := co B_t 2 (.int .i64 0) rfl; have hc_H_0 := co B_H 0 (.int .i64 0) rfl; have hc_H_1 := co B_H 1 (.int .i64 0) rfl; have hc_H_2 := co B_H 2 (.bool false) rfl; have hc_H_3 := co B_H 3 (.int .i64 0) rfl)
    | ((with_reducible refine gate_store (t := 34) (p := 13) (v := .tmp 23) rfl ?_)
       refine rowput rfl 34 (.tmp 13) (.tmp 23) rfl rfl g_H #[.int .i64 t1, .int .i64 t2, .bool t3, .int .i64 t4] rfl rfl 34 #[.int .i64 0, .int .i64 0, .bool false, .int .i64 0] (by exact bl B_H) (by kernel_rfl) rfl (by simp [Value.oneCell']) ?_
       intro w4 hbox hu
       replace B_t := Aside0.mk (hu.blk (by exact bl B_t) (Ne.symm NE_H_t.out))
       replace P_l := Aside0.mk (Cs.updT (by exact P_l.out.updN lu) (by exact bl B_H) (by decide) hu)
       replace HU := Aside0.mk (((by exact ul HU) : Upd None0 w _).trans hu (fun k hk => .inr (by rw [hk]; exact GE_H.out)))
       clear hu
       clear B_H; have B_H := Aside0.mk hbox; clear hbox
       (try clear hc_t_0 hc_t_1 hc_t_2 hc_H_0 hc_H_1 hc_H_2 hc_H_3)
       have hc_t_0 := co B_t 0 (.slice none 0 0) rfl; have hc_t_1 := co B_t 1 (.int .i64 0) rfl; have hc_t_2 := co B_t 2 (.int .i64 0) rfl; have hc_H_0 := co B_H 0 (.int .i64 t1) rfl; have hc_H_1 := co B_H 1 (.int .i64 t2) rfl; have hc_H_2 := co B_H 2 (.bool t3) rfl; have hc_H_3 := co B_H 3 (.int .i64 t4) rfl)
    | ((with_reducible refine gate_store (t := 29) (p := 12) (v := .tmp 46) rfl ?_)
       refine rowput rfl 29 (.tmp 12) (.tmp 46) rfl rfl g_t #[.slice A l.length c, .int .i64 5, .int .i64 la] rfl rfl 29 #[.slice none 0 0, .int .i64 0, .int .i64 0] (by exact bl B_t) (by kernel_rfl) rfl (by simp [Value.oneCell']) ?_
       intro w5 hbox hu
       replace B_H := Aside0.mk (hu.blk (by exact bl B_H) NE_H_t.out)
       replace P_l := Aside0.mk (Cs.updT (by exact P_l.out.updN lu) (by exact bl B_t) (by decide) hu)
       replace HU := Aside0.mk (((by exact ul HU) : Upd None0 w _).trans hu (fun k hk => .inr (by rw [hk]; exact GE_t.out)))
       clear hu
       clear B_t; have B_t := Aside0.mk hbox; clear hbox
       (try clear hc_t_0 hc_t_1 hc_t_2 hc_H_0 hc_H_1 hc_H_2 hc_H_3)
       have hc_t_0 := co B_t 0 (.slice A l.length c) rfl; have hc_t_1 := co B_t 1 (.int .i64 5) rfl; have hc_t_2 := co B_t 2 (.int .i64 la) rfl; have hc_H_0 := co B_H 0 (.int .i64 t1) rfl; have hc_H_1 := co B_H 1 (.int .i64 t2) rfl; have hc_H_2 := co B_H 2 (.bool t3) rfl; have hc_H_3 := co B_H 3 (.int .i64 t4) rfl))
  refine bodyPost_ret (results_c rfl _ _ g_t 29 #[.slice A l.length c, .int .i64 5, .int .i64 la] (0, 0) _ rfl (by exact bl B_t) Try.underlying29 rfl (by kernel_rfl)) rfl ?_
  exact ⟨_, _, rfl, P_l.out, LC.out, HU.out.below0⟩
set_option maxHeartbeats 8000000 in
set_option maxRecDepth 100000 in
theorem elem_deep (a : ByteArray) (A : Option Addr) (c : Nat) (l : List Ev) (p en op most t1 t2 : Int) (t3 : Bool) (t4 la er : Int) (w : World) (hC : Cs w A l) (hc : l.length ≤ c) (hl : l.length ≤ 10000) (hs : a.size ≤ 700) (hp0 : 0 ≤ p) (hp1 : p ≤ a.size) (hn0 : -1 ≤ en) (hn1 : en ≤ 2305843009213694999) (ho0 : 0 ≤ op) (ho1 : op ≤ 64) (hm0 : 0 ≤ most) (hm1 : most ≤ 64) (hst : ∀ w, Calls Try.prog 33 #[.string a, .int .i64 p, .int .i64 en] w fun e w' => e = .returned (.tuple #[.agg #[.int .i64 t1, .int .i64 t2, .bool t3, .int .i64 t4], .int .i64 la, .int .i64 er]) ∧ Below w.heap.size w w') (he : er = 0) (hla0 : 0 ≤ la) (hla1 : la ≤ 700) (ht0 : 0 ≤ t4) (ht1 : t4 ≤ 2305843009213693951) (hb : ¬ (0 ≤ en ∧ en - (la + 1) < t4)) (h3 : t3 = true) (h4 : op = most) :
    Calls Try.prog 23 #[.string a, .slice A l.length c, .int .i64 p, .int .i64 en, .int .i64 op, .int .i64 most] w fun e w' => ∃ A2 c2, e = .returned (.agg #[.slice A2 l.length c2, .int .i64 10, .int .i64 la]) ∧ Cs w' A2 l ∧ l.length ≤ c2 ∧ Below w.heap.size w w' := by
  have P_l := Aside0.mk hC
  have LC := Aside0.mk hc
  have HU := Aside0.mk (Upd.refl None0 w)
  have HS := Aside0.mk hst
  have LL := Aside0.mk (show l.length ≤ 1000000 by omega)
  have hcase : (decide (0 ≤ en) = true ∧ decide (en - (la + 1) < t4) = false) ∨ (decide (0 ≤ en) = false ∧ True) := by
    by_cases hb0 : 0 ≤ en
    · exact .inl ⟨decide_eq_true hb0, decide_eq_false (fun h => hb ⟨hb0, h⟩)⟩
    · exact .inr ⟨decide_eq_false hb0, trivial⟩
  subst he
  clear hb
  have y5 : (op == most) = true := beq_iff_eq.2 h4
  have y4 : (!t3) = false := by rw [h3]; rfl
  clear h4 h3
  clear hC hc hst hl
  go_enter Try.func23, Try.ntmps23
  rcases hcase with ⟨y2, y3⟩ | ⟨y2, y3⟩
  all_goals
    go_wp2_with (first
      | ((with_reducible refine gate_dst (N := 12) rfl ?_)
         refine boxnew ?hg (N := 12) ?hd (cs := #[.slice none 0 0, .int .i64 0, .int .i64 0]) (t := 29) ?hr ?_; (case hd => rfl); (case hg => rfl); (case hr => first | (go_simp; done) | (go_simp; rfl))
         intro g_t hge w1 hbox hu
         have GE_t := Aside0.mk (Nat.le_trans ((by exact ul HU) : Upd None0 w _).size hge)
         replace P_l := Aside0.mk (Cs.updN (by exact P_l.out.updN lu) hu)
         replace HU := Aside0.mk (((by exact ul HU) : Upd None0 w _).trans hu (fun _ h => h.elim))
         clear hu
         have B_t := Aside0.mk hbox; clear hbox hge
         have hc_t_0 := co B_t 0 (.slice none 0 0) rfl; have hc_t_1 := co B_t 1 (.int .i64 0) rfl; have hc_t_2 := co B_t 2 (.int .i64 0) rfl)
      | (go_at_call 33
         (with_reducible refine (HS.out _).mono ?_)
         rintro e w2 ⟨rfl, hb⟩
         have hu := (Upd.of_below hb : Upd None0 _ _)
         replace B_t := Aside0.mk (hu.blk (by exact bl B_t) (fun h => h))
         replace P_l := Aside0.mk (Cs.updN (by exact P_l.out.updN lu) hu)
         replace HU := Aside0.mk (((by exact ul HU) : Upd None0 w _).trans hu (fun _ h => h.elim))
         clear hu
         (try clear hc_t_0 hc_t_1 hc_t_2)
         have hc_t_0 := co B_t 0 (.slice none 0 0) rfl; have hc_t_1 := co B_t 1 (.int .i64 0) rfl; have hc_t_2 := co B_t 2 (.int .i64 0) rfl)
      | ((with_reducible refine gate_dst (N := 13) rfl ?_)
         refine boxnew ?hg (N := 13) ?hd (cs := #[.int .i64 0, .int .i64 0, .bool false, .int .i64 0]) (t := 34) ?hr ?_; (case hd => rfl); (case hg => rfl); (case hr => first | (go_simp; done) | (go_simp; rfl))
         intro g_H hge w3 hbox hu
         have NE_H_t := Aside0.mk (Ne.symm (blk_fresh (by exact bl B_t) hge))
         have GE_H := Aside0.mk (Nat.le_trans ((by exact ul HU) : Upd None0 w _).size hge)
         replace B_t := Aside0.mk (hu.blk (by exact bl B_t) (fun h => h))
         replace P_l := Aside0.mk (Cs.updN (by exact P_l.out.updN lu) hu)
         replace HU := Aside0.mk (((by exact ul HU) : Upd None0 w _).trans hu (fun _ h => h.elim))
         clear hu
         have B_H := Aside0.mk hbox; clear hbox hge
         (try clear hc_t_0 hc_t_1 hc_t_2)
         have hc_t_0 := co B_t 0 (.slice none 0 0) rfl; have hc_t_1 := co B_t 1 (.int .i64 0) rfl; have hc_t_2 := co B_t 2 (.int .i64 0) rfl; have hc_H_0 := co B_H 0 (.int .i64 0) rfl; have hc_H_1 := co B_H 1 (.int .i64 0) rfl; have hc_H_2 := co B_H 2 (.bool false) rfl; have hc_H_3 := co B_H 3 (.int .i64 0) rfl)
      | ((with_reducible refine gate_store (t := 34) (p := 13) (v := .tmp 23) rfl ?_)
         refine rowput rfl 34 (.tmp 13) (.tmp 23) rfl rfl g_H #[.int .i64 t1, .int .i64 t2, .bool t3, .int .i64 t4] rfl rfl 34 #[.int .i64 0, .int .i64 0, .bool false, .int .i64 0] (by exact bl B_H) (by kernel_rfl) rfl (by simp [Value.oneCell']) ?_
         intro w4 hbox hu
         replace B_t := Aside0.mk (hu.blk (by exact bl B_t) (Ne.symm NE_H_t.out))
         replace P_l := Aside0.mk (Cs.updT (by exact P_l.out.updN lu) (by exact bl B_H) (by decide) hu)
         replace HU := Aside0.mk (((by exact ul HU) : Upd None0 w _).trans hu (fun k hk => .inr (by rw [hk]; exact GE_H.out)))
         clear hu
         clear B_H; have B_H := Aside0.mk hbox; clear hbox
         (try clear hc_t_0 hc_t_1 hc_t_2 hc_H_0 hc_H_1 hc_H_2 hc_H_3)
         have hc_t_0 := co B_t 0 (.slice none 0 0) rfl; have hc_t_1 := co B_t 1 (.int .i64 0) rfl; have hc_t_2 := co B_t 2 (.int .i64 0) rfl; have hc_H_0 := co B_H 0 (.int .i64 t1) rfl; have hc_H_1 := co B_H 1 (.int .i64 t2) rfl; have hc_H_2 := co B_H 2 (.bool t3) rfl; have hc_H_3 := co B_H 3 (.int .i64 t4) rfl)
      | ((with_reducible refine gate_store (t := 29) (p := 12) (v := .tmp 65) rfl ?_)
         refine rowput rfl 29 (.tmp 12) (.tmp 65) rfl rfl g_t #[.slice A l.length c, .int .i64 10, .int .i64 la] rfl rfl 29 #[.slice none 0 0, .int .i64 0, .int .i64 0] (by exact bl B_t) (by kernel_rfl) rfl (by simp [Value.oneCell']) ?_
         intro w5 hbox hu
         replace B_H := Aside0.mk (hu.blk (by exact bl B_H) NE_H_t.out)
         replace P_l := Aside0.mk (Cs.updT (by exact P_l.out.updN lu) (by exact bl B_t) (by decide) hu)
         replace HU := Aside0.mk (((by exact ul HU) : Upd None0 w _).trans hu (fun k hk => .inr (by rw [hk]; exact GE_t.out)))
         clear hu
         clear B_t; have B_t := Aside0.mk hbox; clear hbox
         (try clear hc_t_0 hc_t_1 hc_t_2 hc_H_0 hc_H_1 hc_H_2 hc_H_3)
         have hc_t_0 := co B_t 0 (.slice A l.length c) rfl; have hc_t_1 := co B_t 1 (.int .i64 10) rfl; have hc_t_2 := co B_t 2 (.int .i64 la) rfl; have hc_H_0 := co B_H 0 (.int .i64 t1) rfl; have hc_H_1 := co B_H 1 (.int .i64 t2) rfl; have hc_H_2 := co B_H 2 (.bool t3) rfl; have hc_H_3 := co B_H 3 (.int .i64 t4) rfl))
    refine bodyPost_ret (results_c rfl _ _ g_t 29 #[.slice A l.length c, .int .i64 10, .int .i64 la] (0, 0) _ rfl (by exact bl B_t) Try.underlying29 rfl (by kernel_rfl)) rfl ?_
    exact ⟨_, _, rfl, P_l.out, LC.out, HU.out.below0⟩
theorem elem_any (a : ByteArray) (T : Int → Int → Hd × Int × Int) (hT : GoodT a T) (hS : StartT a T) (hs : a.size ≤ 700) (most : Int) (hm0 : 0 ≤ most) (hm1 : most ≤ 64) : ∀ (g : Nat) (l : List Ev) (A : Option Addr) (c : Nat) (p en op : Int) (w : World) (q1 : List Ev) (q2 q3 : Int), Cs w A l → l.length ≤ c → 0 ≤ p → p ≤ a.size → -1 ≤ en → en ≤ 2305843009213694999 → 0 ≤ op → op ≤ most → (l.length : Int) ≤ 3 * p → elX a T most g false l p en op = some (q1, q2, q3) →
    Calls Try.prog 23 #[.string a, .slice A l.length c, .int .i64 p, .int .i64 en, .int .i64 op, .int .i64 most] w fun e w' => ∃ A2 c2, e = .returned (.agg #[.slice A2 q1.length c2, .int .i64 q2, .int .i64 q3]) ∧ Cs w' A2 q1 ∧ q1.length ≤ c2 ∧ Below w.heap.size w w'
  | 0, l, A, c, p, en, op, w, q1, q2, q3, hC, hc, hp0, hp1, hn0, hn1, ho0, ho1, hl, h => by simp [elX] at h
  | g + 1, l, A, c, p, en, op, w, q1, q2, q3, hC, hc, hp0, hp1, hn0, hn1, ho0, ho1, hl, h => by
    unfold elX at h
    have hst := fun w => hS p en w hp0 hp1 hn0 hn1
    have tt := hT p en hp0 hp1
    have hl2 : l.length ≤ 10000 := by omega
    have ho2 : op ≤ 64 := by omega
    obtain ⟨⟨⟨t1, t2, t3, t4⟩, la, er⟩, hq⟩ : ∃ q, T p en = q := ⟨_, rfl⟩
    rw [hq] at h tt
    simp only [hq] at hst
    by_cases c1 : er = 0
    · rw [if_neg (by simp [c1])] at h
      obtain ⟨b1, b2, b3, b4⟩ := tt c1
      simp only at b1 b2 b3 b4
      by_cases c2 : 0 ≤ en ∧ en - (la + 1) < t4
      · rw [if_pos c2] at h
        simp only [Option.some.injEq, Prod.mk.injEq] at h
        obtain ⟨rfl, rfl, rfl⟩ := h
        exact elem_big a A c l p en op most t1 t2 t3 t4 la er w hC hc hl2 hs hp0 hp1 hn0 hn1 ho0 ho2 hm0 hm1 hst c1 (by omega) (by omega) b3 b4 c2.1 c2.2
      · rw [if_neg c2] at h
        by_cases c3 : t3 = false
        · rw [if_pos c3] at h
          exact elem_leaf a A c l p en op most t1 t2 t3 t4 la er w hC hc hl2 hs hp0 hp1 hn0 hn1 ho0 ho2 hm0 hm1 hst q1 q2 q3 c1 (by omega) (by omega) b3 b4 (by omega) c2 c3 (Option.some.inj h)
        · rw [if_neg c3] at h
          have c3 : t3 = true := by simpa using c3
          by_cases c4 : op = most
          · rw [if_pos c4] at h
            simp only [Option.some.injEq, Prod.mk.injEq] at h
            obtain ⟨rfl, rfl, rfl⟩ := h
            exact elem_deep a A c l p en op most t1 t2 t3 t4 la er w hC hc hl2 hs hp0 hp1 hn0 hn1 ho0 ho2 hm0 hm1 hst c1 (by omega) (by omega) b3 b4 c2 c3 c4
          · rw [if_neg c4] at h
            refine elem_cons a A c l p en op most t1 t2 t3 t4 la er w hC hc hl2 hs hp0 hp1 hn0 hn1 ho0 ho2 hm0 hm1 hst g T hT q1 q2 q3 c1 (by omega) (by omega) b3 b4 (by omega) b1 hl c2 c3 c4 ?_ h
            intro g' hg' l' A' c' p' w' r1 r2 r3 hC' hc' hp0' hp1' hl' h'
            exact elem_any a T hT hS hs most hm0 hm1 g' l' A' c' p' (la + 1 + t4) (op + 1) w' r1 r2 r3 hC' hc' hp0' hp1' (by omega) (by omega) (by omega) (by omega) hl' h'
    · rw [if_pos c1] at h
      simp only [Option.some.injEq, Prod.mk.injEq] at h
      obtain ⟨rfl, rfl, rfl⟩ := h
      exact elem_err a A c l p en op most t1 t2 t3 t4 la er w hC hc hl2 hs hp0 hp1 hn0 hn1 ho0 ho2 hm0 hm1 hst c1
  termination_by g => g

set_option maxHeartbeats 8000000 in
set_option maxRecDepth 100000 in
theorem refw_more (a : ByteArray) (dp dq : Int) (r1 : List Ev) (r2 r3 : Int) (w : World) (hs : a.size ≤ 700) (hq : dq = mn (mx dp 0) 64) (h2 : r2 = 0) (h3 : r3 < (a.size : Int)) (hE : ∀ w, Calls Try.prog 23 #[.string a, .slice none 0 0, .int .i64 0, .int .i64 (-1), .int .i64 0, .int .i64 dq] w fun e w' => ∃ A2 c2, e = .returned (.agg #[.slice A2 r1.length c2, .int .i64 r2, .int .i64 r3]) ∧ Cs w' A2 r1 ∧ r1.length ≤ c2 ∧ Below w.heap.size w w') :
    Calls Try.prog 14 #[.string a, .int .i64 dp] w fun e w' => ∃ A2 c2, e = .returned (.agg #[.slice A2 r1.length c2, .int .i64 6, .int .i64 r3]) ∧ Cs w' A2 r1 ∧ r1.length ≤ c2 ∧ Below w.heap.size w w' := by
  have EA := Aside0.mk hE
  have HU := Aside0.mk (Upd.refl None0 w)
  have y1 : (r2 == 0) = true := beq_iff_eq.2 h2
  have y2 : decide (r3 < (a.size : Int)) = true := decide_eq_true h3
  clear hE h2 h3
  have hcl : (decide (dp < 0) = true ∧ dq = 0) ∨ (decide (dp < 0) = false ∧ decide (64 < dp) = true ∧ dq = 64) ∨ (decide (dp < 0) = false ∧ decide (64 < dp) = false ∧ dq = dp) := by
    unfold mn mx at hq
    by_cases h1 : dp < 0
    · exact .inl ⟨decide_eq_true h1, by rw [hq]; (repeat' split) <;> omega⟩
    · by_cases h2 : 64 < dp
      · exact .inr (.inl ⟨decide_eq_false h1, decide_eq_true h2, by rw [hq]; (repeat' split) <;> omega⟩)
      · exact .inr (.inr ⟨decide_eq_false h1, decide_eq_false h2, by rw [hq]; (repeat' split) <;> omega⟩)
  clear hq
  rcases hcl with ⟨z1, rfl⟩ | ⟨z1, z2, rfl⟩ | ⟨z1, z2, rfl⟩
  all_goals
    go_enter Try.func14, Try.ntmps14
    go_wp2_with (first
      | ((with_reducible refine gate_dst (N := 4) rfl ?_)
         refine boxnew ?hg (N := 4) ?hd (cs := #[.slice none 0 0, .int .i64 0, .int .i64 0]) (t := 29) ?hr ?_; (case hd => rfl); (case hg => rfl); (case hr => first | (go_simp; done) | (go_simp; rfl))
         intro g_t hge w1 hbox hu
         have GE_t := Aside0.mk (Nat.le_trans ((by exact ul HU) : Upd None0 w _).size hge)
         replace HU := Aside0.mk (((by exact ul HU) : Upd None0 w _).trans hu (fun _ h => h.elim))
         clear hu
         have B_t := Aside0.mk hbox; clear hbox hge
         have hc_t_0 := co B_t 0 (.slice none 0 0) rfl; have hc_t_1 := co B_t 1 (.int .i64 0) rfl; have hc_t_2 := co B_t 2 (.int .i64 0) rfl)
      | (go_at_call 23
         (with_reducible refine (EA.out _).mono ?_)
         rintro e w2 ⟨A_q, c_q, rfl, hC2, hle2, hb⟩
         have hu := (Upd.of_below hb : Upd None0 _ _)
         replace B_t := Aside0.mk (hu.blk (by exact bl B_t) (fun h => h))
         replace HU := Aside0.mk (((by exact ul HU) : Upd None0 w _).trans hu (fun _ h => h.elim))
         clear hu
         have P_q := Aside0.mk hC2
         have L_q := Aside0.mk hle2
         clear hC2 hle2
         (try clear hc_t_0 hc_t_1 hc_t_2)
         have hc_t_0 := co B_t 0 (.slice none 0 0) rfl; have hc_t_1 := co B_t 1 (.int .i64 0) rfl; have hc_t_2 := co B_t 2 (.int .i64 0) rfl)
      | ((with_reducible refine gate_dst (N := 5) rfl ?_)
         refine boxnew ?hg (N := 5) ?hd (cs := #[.slice none 0 0, .int .i64 0, .int .i64 0]) (t := 29) ?hr ?_; (case hd => rfl); (case hg => rfl); (case hr => first | (go_simp; done) | (go_simp; rfl))
         intro g_u hge w3 hbox hu
         have NE_t_u := Aside0.mk (blk_fresh (by exact bl B_t) hge)
         have GE_u := Aside0.mk (Nat.le_trans ((by exact ul HU) : Upd None0 w _).size hge)
         replace B_t := Aside0.mk (hu.blk (by exact bl B_t) (fun h => h))
         replace P_q := Aside0.mk (Cs.updN (by exact P_q.out.updN lu) hu)
         replace HU := Aside0.mk (((by exact ul HU) : Upd None0 w _).trans hu (fun _ h => h.elim))
         clear hu
         have B_u := Aside0.mk hbox; clear hbox hge
         (try clear hc_t_0 hc_t_1 hc_t_2)
         have hc_t_0 := co B_t 0 (.slice none 0 0) rfl; have hc_t_1 := co B_t 1 (.int .i64 0) rfl; have hc_t_2 := co B_t 2 (.int .i64 0) rfl; have hc_u_0 := co B_u 0 (.slice none 0 0) rfl; have hc_u_1 := co B_u 1 (.int .i64 0) rfl; have hc_u_2 := co B_u 2 (.int .i64 0) rfl)
      | ((with_reducible refine gate_store (t := 29) (p := 5) (v := .tmp 12) rfl ?_)
         refine rowput rfl 29 (.tmp 5) (.tmp 12) rfl rfl g_u #[.slice A_q r1.length c_q, .int .i64 r2, .int .i64 r3] rfl rfl 29 #[.slice none 0 0, .int .i64 0, .int .i64 0] (by exact bl B_u) (by kernel_rfl) rfl (by simp [Value.oneCell']) ?_
         intro w4 hbox hu
         replace B_t := Aside0.mk (hu.blk (by exact bl B_t) NE_t_u.out)
         replace P_q := Aside0.mk (Cs.updT (by exact P_q.out.updN lu) (by exact bl B_u) (by decide) hu)
         replace HU := Aside0.mk (((by exact ul HU) : Upd None0 w _).trans hu (fun k hk => .inr (by rw [hk]; exact GE_u.out)))
         clear hu
         clear B_u; have B_u := Aside0.mk hbox; clear hbox
         (try clear hc_t_0 hc_t_1 hc_t_2 hc_u_0 hc_u_1 hc_u_2)
         have hc_t_0 := co B_t 0 (.slice none 0 0) rfl; have hc_t_1 := co B_t 1 (.int .i64 0) rfl; have hc_t_2 := co B_t 2 (.int .i64 0) rfl; have hc_u_0 := co B_u 0 (.slice A_q r1.length c_q) rfl; have hc_u_1 := co B_u 1 (.int .i64 r2) rfl; have hc_u_2 := co B_u 2 (.int .i64 r3) rfl)
      | ((with_reducible refine gate_store (t := 3) (p := 23) (v := .const (.int .i64 6)) rfl ?_)
         refine cellput rfl 3 (.tmp 23) (.const (.int .i64 6)) rfl rfl g_u 1 (.int .i64 6) rfl rfl 29 #[.slice A_q r1.length c_q, .int .i64 r2, .int .i64 r3] #[.slice A_q r1.length c_q, .int .i64 6, .int .i64 r3] (by exact bl B_u) (by kernel_rfl) (by simp) rfl rfl ?_
         intro w5 hbox hu
         replace B_t := Aside0.mk (hu.blk (by exact bl B_t) NE_t_u.out)
         replace P_q := Aside0.mk (Cs.updT (by exact P_q.out.updN lu) (by exact bl B_u) (by decide) hu)
         replace HU := Aside0.mk (((by exact ul HU) : Upd None0 w _).trans hu (fun k hk => .inr (by rw [hk]; exact GE_u.out)))
         clear hu
         clear B_u; have B_u := Aside0.mk hbox; clear hbox
         (try clear hc_t_0 hc_t_1 hc_t_2 hc_u_0 hc_u_1 hc_u_2)
         have hc_t_0 := co B_t 0 (.slice none 0 0) rfl; have hc_t_1 := co B_t 1 (.int .i64 0) rfl; have hc_t_2 := co B_t 2 (.int .i64 0) rfl; have hc_u_0 := co B_u 0 (.slice A_q r1.length c_q) rfl; have hc_u_1 := co B_u 1 (.int .i64 6) rfl; have hc_u_2 := co B_u 2 (.int .i64 r3) rfl)
      | ((with_reducible refine gate_store (t := 29) (p := 4) (v := .tmp 24) rfl ?_)
         refine rowput rfl 29 (.tmp 4) (.tmp 24) rfl rfl g_t #[.slice A_q r1.length c_q, .int .i64 6, .int .i64 r3] rfl rfl 29 #[.slice none 0 0, .int .i64 0, .int .i64 0] (by exact bl B_t) (by kernel_rfl) rfl (by simp [Value.oneCell']) ?_
         intro w6 hbox hu
         replace B_u := Aside0.mk (hu.blk (by exact bl B_u) (Ne.symm NE_t_u.out))
         replace P_q := Aside0.mk (Cs.updT (by exact P_q.out.updN lu) (by exact bl B_t) (by decide) hu)
         replace HU := Aside0.mk (((by exact ul HU) : Upd None0 w _).trans hu (fun k hk => .inr (by rw [hk]; exact GE_t.out)))
         clear hu
         clear B_t; have B_t := Aside0.mk hbox; clear hbox
         (try clear hc_t_0 hc_t_1 hc_t_2 hc_u_0 hc_u_1 hc_u_2)
         have hc_t_0 := co B_t 0 (.slice A_q r1.length c_q) rfl; have hc_t_1 := co B_t 1 (.int .i64 6) rfl; have hc_t_2 := co B_t 2 (.int .i64 r3) rfl; have hc_u_0 := co B_u 0 (.slice A_q r1.length c_q) rfl; have hc_u_1 := co B_u 1 (.int .i64 6) rfl; have hc_u_2 := co B_u 2 (.int .i64 r3) rfl))
    refine bodyPost_ret (results_c rfl _ _ g_t 29 #[.slice A_q r1.length c_q, .int .i64 6, .int .i64 r3] (0, 0) _ rfl (by exact bl B_t) Try.underlying29 rfl (by kernel_rfl)) rfl ?_
    exact ⟨_, _, rfl, P_q.out, L_q.out, HU.out.below0⟩
set_option maxHeartbeats 8000000 in
set_option maxRecDepth 100000 in
theorem refw_err (a : ByteArray) (dp dq : Int) (r1 : List Ev) (r2 r3 : Int) (w : World) (hs : a.size ≤ 700) (hq : dq = mn (mx dp 0) 64) (h2 : ¬ r2 = 0) (hE : ∀ w, Calls Try.prog 23 #[.string a, .slice none 0 0, .int .i64 0, .int .i64 (-1), .int .i64 0, .int .i64 dq] w fun e w' => ∃ A2 c2, e = .returned (.agg #[.slice A2 r1.length c2, .int .i64 r2, .int .i64 r3]) ∧ Cs w' A2 r1 ∧ r1.length ≤ c2 ∧ Below w.heap.size w w') :
    Calls Try.prog 14 #[.string a, .int .i64 dp] w fun e w' => ∃ A2 c2, e = .returned (.agg #[.slice A2 r1.length c2, .int .i64 r2, .int .i64 r3]) ∧ Cs w' A2 r1 ∧ r1.length ≤ c2 ∧ Below w.heap.size w w' := by
  have EA := Aside0.mk hE
  have HU := Aside0.mk (Upd.refl None0 w)
  have y1 : (r2 == 0) = false := beq_eq_false_iff_ne.2 h2
  have h3 := h2
  clear hE h2 h3
  have hcl : (decide (dp < 0) = true ∧ dq = 0) ∨ (decide (dp < 0) = false ∧ decide (64 < dp) = true ∧ dq = 64) ∨ (decide (dp < 0) = false ∧ decide (64 < dp) = false ∧ dq = dp) := by
    unfold mn mx at hq
    by_cases h1 : dp < 0
    · exact .inl ⟨decide_eq_true h1, by rw [hq]; (repeat' split) <;> omega⟩
    · by_cases h2 : 64 < dp
      · exact .inr (.inl ⟨decide_eq_false h1, decide_eq_true h2, by rw [hq]; (repeat' split) <;> omega⟩)
      · exact .inr (.inr ⟨decide_eq_false h1, decide_eq_false h2, by rw [hq]; (repeat' split) <;> omega⟩)
  clear hq
  rcases hcl with ⟨z1, rfl⟩ | ⟨z1, z2, rfl⟩ | ⟨z1, z2, rfl⟩
  all_goals
    go_enter Try.func14, Try.ntmps14
    go_wp2_with (first
      | ((with_reducible refine gate_dst (N := 4) rfl ?_)
         refine boxnew ?hg (N := 4) ?hd (cs := #[.slice none 0 0, .int .i64 0, .int .i64 0]) (t := 29) ?hr ?_; (case hd => rfl); (case hg => rfl); (case hr => first | (go_simp; done) | (go_simp; rfl))
         intro g_t hge w1 hbox hu
         have GE_t := Aside0.mk (Nat.le_trans ((by exact ul HU) : Upd None0 w _).size hge)
         replace HU := Aside0.mk (((by exact ul HU) : Upd None0 w _).trans hu (fun _ h => h.elim))
         clear hu
         have B_t := Aside0.mk hbox; clear hbox hge
         have hc_t_0 := co B_t 0 (.slice none 0 0) rfl; have hc_t_1 := co B_t 1 (.int .i64 0) rfl; have hc_t_2 := co B_t 2 (.int .i64 0) rfl)
      | (go_at_call 23
         (with_reducible refine (EA.out _).mono ?_)
         rintro e w2 ⟨A_q, c_q, rfl, hC2, hle2, hb⟩
         have hu := (Upd.of_below hb : Upd None0 _ _)
         replace B_t := Aside0.mk (hu.blk (by exact bl B_t) (fun h => h))
         replace HU := Aside0.mk (((by exact ul HU) : Upd None0 w _).trans hu (fun _ h => h.elim))
         clear hu
         have P_q := Aside0.mk hC2
         have L_q := Aside0.mk hle2
         clear hC2 hle2
         (try clear hc_t_0 hc_t_1 hc_t_2)
         have hc_t_0 := co B_t 0 (.slice none 0 0) rfl; have hc_t_1 := co B_t 1 (.int .i64 0) rfl; have hc_t_2 := co B_t 2 (.int .i64 0) rfl)
      | ((with_reducible refine gate_dst (N := 5) rfl ?_)
         refine boxnew ?hg (N := 5) ?hd (cs := #[.slice none 0 0, .int .i64 0, .int .i64 0]) (t := 29) ?hr ?_; (case hd => rfl); (case hg => rfl); (case hr => first | (go_simp; done) | (go_simp; rfl))
         intro g_u hge w3 hbox hu
         have NE_t_u := Aside0.mk (blk_fresh (by exact bl B_t) hge)
         have GE_u := Aside0.mk (Nat.le_trans ((by exact ul HU) : Upd None0 w _).size hge)
         replace B_t := Aside0.mk (hu.blk (by exact bl B_t) (fun h => h))
         replace P_q := Aside0.mk (Cs.updN (by exact P_q.out.updN lu) hu)
         replace HU := Aside0.mk (((by exact ul HU) : Upd None0 w _).trans hu (fun _ h => h.elim))
         clear hu
         have B_u := Aside0.mk hbox; clear hbox hge
         (try clear hc_t_0 hc_t_1 hc_t_2)
         have hc_t_0 := co B_t 0 (.slice none 0 0) rfl; have hc_t_1 := co B_t 1 (.int .i64 0) rfl; have hc_t_2 := co B_t 2 (.int .i64 0) rfl; have hc_u_0 := co B_u 0 (.slice none 0 0) rfl; have hc_u_1 := co B_u 1 (.int .i64 0) rfl; have hc_u_2 := co B_u 2 (.int .i64 0) rfl)
      | ((with_reducible refine gate_store (t := 29) (p := 5) (v := .tmp 12) rfl ?_)
         refine rowput rfl 29 (.tmp 5) (.tmp 12) rfl rfl g_u #[.slice A_q r1.length c_q, .int .i64 r2, .int .i64 r3] rfl rfl 29 #[.slice none 0 0, .int .i64 0, .int .i64 0] (by exact bl B_u) (by kernel_rfl) rfl (by simp [Value.oneCell']) ?_
         intro w4 hbox hu
         replace B_t := Aside0.mk (hu.blk (by exact bl B_t) NE_t_u.out)
         replace P_q := Aside0.mk (Cs.updT (by exact P_q.out.updN lu) (by exact bl B_u) (by decide) hu)
         replace HU := Aside0.mk (((by exact ul HU) : Upd None0 w _).trans hu (fun k hk => .inr (by rw [hk]; exact GE_u.out)))
         clear hu
         clear B_u; have B_u := Aside0.mk hbox; clear hbox
         (try clear hc_t_0 hc_t_1 hc_t_2 hc_u_0 hc_u_1 hc_u_2)
         have hc_t_0 := co B_t 0 (.slice none 0 0) rfl; have hc_t_1 := co B_t 1 (.int .i64 0) rfl; have hc_t_2 := co B_t 2 (.int .i64 0) rfl; have hc_u_0 := co B_u 0 (.slice A_q r1.length c_q) rfl; have hc_u_1 := co B_u 1 (.int .i64 r2) rfl; have hc_u_2 := co B_u 2 (.int .i64 r3) rfl)
      | ((with_reducible refine gate_store (t := 29) (p := 4) (v := .tmp 24) rfl ?_)
         refine rowput rfl 29 (.tmp 4) (.tmp 24) rfl rfl g_t #[.slice A_q r1.length c_q, .int .i64 r2, .int .i64 r3] rfl rfl 29 #[.slice none 0 0, .int .i64 0, .int .i64 0] (by exact bl B_t) (by kernel_rfl) rfl (by simp [Value.oneCell']) ?_
         intro w5 hbox hu
         replace B_u := Aside0.mk (hu.blk (by exact bl B_u) (Ne.symm NE_t_u.out))
         replace P_q := Aside0.mk (Cs.updT (by exact P_q.out.updN lu) (by exact bl B_t) (by decide) hu)
         replace HU := Aside0.mk (((by exact ul HU) : Upd None0 w _).trans hu (fun k hk => .inr (by rw [hk]; exact GE_t.out)))
         clear hu
         clear B_t; have B_t := Aside0.mk hbox; clear hbox
         (try clear hc_t_0 hc_t_1 hc_t_2 hc_u_0 hc_u_1 hc_u_2)
         have hc_t_0 := co B_t 0 (.slice A_q r1.length c_q) rfl; have hc_t_1 := co B_t 1 (.int .i64 r2) rfl; have hc_t_2 := co B_t 2 (.int .i64 r3) rfl; have hc_u_0 := co B_u 0 (.slice A_q r1.length c_q) rfl; have hc_u_1 := co B_u 1 (.int .i64 r2) rfl; have hc_u_2 := co B_u 2 (.int .i64 r3) rfl))
    refine bodyPost_ret (results_c rfl _ _ g_t 29 #[.slice A_q r1.length c_q, .int .i64 r2, .int .i64 r3] (0, 0) _ rfl (by exact bl B_t) Try.underlying29 rfl (by kernel_rfl)) rfl ?_
    exact ⟨_, _, rfl, P_q.out, L_q.out, HU.out.below0⟩
set_option maxHeartbeats 8000000 in
set_option maxRecDepth 100000 in
theorem refw_all (a : ByteArray) (dp dq : Int) (r1 : List Ev) (r2 r3 : Int) (w : World) (hs : a.size ≤ 700) (hq : dq = mn (mx dp 0) 64) (h2 : r2 = 0) (h3 : ¬ r3 < (a.size : Int)) (hE : ∀ w, Calls Try.prog 23 #[.string a, .slice none 0 0, .int .i64 0, .int .i64 (-1), .int .i64 0, .int .i64 dq] w fun e w' => ∃ A2 c2, e = .returned (.agg #[.slice A2 r1.length c2, .int .i64 r2, .int .i64 r3]) ∧ Cs w' A2 r1 ∧ r1.length ≤ c2 ∧ Below w.heap.size w w') :
    Calls Try.prog 14 #[.string a, .int .i64 dp] w fun e w' => ∃ A2 c2, e = .returned (.agg #[.slice A2 r1.length c2, .int .i64 r2, .int .i64 r3]) ∧ Cs w' A2 r1 ∧ r1.length ≤ c2 ∧ Below w.heap.size w w' := by
  have EA := Aside0.mk hE
  have HU := Aside0.mk (Upd.refl None0 w)
  have y1 : (r2 == 0) = true := beq_iff_eq.2 h2
  have y2 : decide (r3 < (a.size : Int)) = false := decide_eq_false h3
  clear hE h2 h3
  have hcl : (decide (dp < 0) = true ∧ dq = 0) ∨ (decide (dp < 0) = false ∧ decide (64 < dp) = true ∧ dq = 64) ∨ (decide (dp < 0) = false ∧ decide (64 < dp) = false ∧ dq = dp) := by
    unfold mn mx at hq
    by_cases h1 : dp < 0
    · exact .inl ⟨decide_eq_true h1, by rw [hq]; (repeat' split) <;> omega⟩
    · by_cases h2 : 64 < dp
      · exact .inr (.inl ⟨decide_eq_false h1, decide_eq_true h2, by rw [hq]; (repeat' split) <;> omega⟩)
      · exact .inr (.inr ⟨decide_eq_false h1, decide_eq_false h2, by rw [hq]; (repeat' split) <;> omega⟩)
  clear hq
  rcases hcl with ⟨z1, rfl⟩ | ⟨z1, z2, rfl⟩ | ⟨z1, z2, rfl⟩
  all_goals
    go_enter Try.func14, Try.ntmps14
    go_wp2_with (first
      | ((with_reducible refine gate_dst (N := 4) rfl ?_)
         refine boxnew ?hg (N := 4) ?hd (cs := #[.slice none 0 0, .int .i64 0, .int .i64 0]) (t := 29) ?hr ?_; (case hd => rfl); (case hg => rfl); (case hr => first | (go_simp; done) | (go_simp; rfl))
         intro g_t hge w1 hbox hu
         have GE_t := Aside0.mk (Nat.le_trans ((by exact ul HU) : Upd None0 w _).size hge)
         replace HU := Aside0.mk (((by exact ul HU) : Upd None0 w _).trans hu (fun _ h => h.elim))
         clear hu
         have B_t := Aside0.mk hbox; clear hbox hge
         have hc_t_0 := co B_t 0 (.slice none 0 0) rfl; have hc_t_1 := co B_t 1 (.int .i64 0) rfl; have hc_t_2 := co B_t 2 (.int .i64 0) rfl)
      | (go_at_call 23
         (with_reducible refine (EA.out _).mono ?_)
         rintro e w2 ⟨A_q, c_q, rfl, hC2, hle2, hb⟩
         have hu := (Upd.of_below hb : Upd None0 _ _)
         replace B_t := Aside0.mk (hu.blk (by exact bl B_t) (fun h => h))
         replace HU := Aside0.mk (((by exact ul HU) : Upd None0 w _).trans hu (fun _ h => h.elim))
         clear hu
         have P_q := Aside0.mk hC2
         have L_q := Aside0.mk hle2
         clear hC2 hle2
         (try clear hc_t_0 hc_t_1 hc_t_2)
         have hc_t_0 := co B_t 0 (.slice none 0 0) rfl; have hc_t_1 := co B_t 1 (.int .i64 0) rfl; have hc_t_2 := co B_t 2 (.int .i64 0) rfl)
      | ((with_reducible refine gate_dst (N := 5) rfl ?_)
         refine boxnew ?hg (N := 5) ?hd (cs := #[.slice none 0 0, .int .i64 0, .int .i64 0]) (t := 29) ?hr ?_; (case hd => rfl); (case hg => rfl); (case hr => first | (go_simp; done) | (go_simp; rfl))
         intro g_u hge w3 hbox hu
         have NE_t_u := Aside0.mk (blk_fresh (by exact bl B_t) hge)
         have GE_u := Aside0.mk (Nat.le_trans ((by exact ul HU) : Upd None0 w _).size hge)
         replace B_t := Aside0.mk (hu.blk (by exact bl B_t) (fun h => h))
         replace P_q := Aside0.mk (Cs.updN (by exact P_q.out.updN lu) hu)
         replace HU := Aside0.mk (((by exact ul HU) : Upd None0 w _).trans hu (fun _ h => h.elim))
         clear hu
         have B_u := Aside0.mk hbox; clear hbox hge
         (try clear hc_t_0 hc_t_1 hc_t_2)
         have hc_t_0 := co B_t 0 (.slice none 0 0) rfl; have hc_t_1 := co B_t 1 (.int .i64 0) rfl; have hc_t_2 := co B_t 2 (.int .i64 0) rfl; have hc_u_0 := co B_u 0 (.slice none 0 0) rfl; have hc_u_1 := co B_u 1 (.int .i64 0) rfl; have hc_u_2 := co B_u 2 (.int .i64 0) rfl)
      | ((with_reducible refine gate_store (t := 29) (p := 5) (v := .tmp 12) rfl ?_)
         refine rowput rfl 29 (.tmp 5) (.tmp 12) rfl rfl g_u #[.slice A_q r1.length c_q, .int .i64 r2, .int .i64 r3] rfl rfl 29 #[.slice none 0 0, .int .i64 0, .int .i64 0] (by exact bl B_u) (by kernel_rfl) rfl (by simp [Value.oneCell']) ?_
         intro w4 hbox hu
         replace B_t := Aside0.mk (hu.blk (by exact bl B_t) NE_t_u.out)
         replace P_q := Aside0.mk (Cs.updT (by exact P_q.out.updN lu) (by exact bl B_u) (by decide) hu)
         replace HU := Aside0.mk (((by exact ul HU) : Upd None0 w _).trans hu (fun k hk => .inr (by rw [hk]; exact GE_u.out)))
         clear hu
         clear B_u; have B_u := Aside0.mk hbox; clear hbox
         (try clear hc_t_0 hc_t_1 hc_t_2 hc_u_0 hc_u_1 hc_u_2)
         have hc_t_0 := co B_t 0 (.slice none 0 0) rfl; have hc_t_1 := co B_t 1 (.int .i64 0) rfl; have hc_t_2 := co B_t 2 (.int .i64 0) rfl; have hc_u_0 := co B_u 0 (.slice A_q r1.length c_q) rfl; have hc_u_1 := co B_u 1 (.int .i64 r2) rfl; have hc_u_2 := co B_u 2 (.int .i64 r3) rfl)
      | ((with_reducible refine gate_store (t := 29) (p := 4) (v := .tmp 24) rfl ?_)
         refine rowput rfl 29 (.tmp 4) (.tmp 24) rfl rfl g_t #[.slice A_q r1.length c_q, .int .i64 r2, .int .i64 r3] rfl rfl 29 #[.slice none 0 0, .int .i64 0, .int .i64 0] (by exact bl B_t) (by kernel_rfl) rfl (by simp [Value.oneCell']) ?_
         intro w5 hbox hu
         replace B_u := Aside0.mk (hu.blk (by exact bl B_u) (Ne.symm NE_t_u.out))
         replace P_q := Aside0.mk (Cs.updT (by exact P_q.out.updN lu) (by exact bl B_t) (by decide) hu)
         replace HU := Aside0.mk (((by exact ul HU) : Upd None0 w _).trans hu (fun k hk => .inr (by rw [hk]; exact GE_t.out)))
         clear hu
         clear B_t; have B_t := Aside0.mk hbox; clear hbox
         (try clear hc_t_0 hc_t_1 hc_t_2 hc_u_0 hc_u_1 hc_u_2)
         have hc_t_0 := co B_t 0 (.slice A_q r1.length c_q) rfl; have hc_t_1 := co B_t 1 (.int .i64 r2) rfl; have hc_t_2 := co B_t 2 (.int .i64 r3) rfl; have hc_u_0 := co B_u 0 (.slice A_q r1.length c_q) rfl; have hc_u_1 := co B_u 1 (.int .i64 r2) rfl; have hc_u_2 := co B_u 2 (.int .i64 r3) rfl))
    refine bodyPost_ret (results_c rfl _ _ g_t 29 #[.slice A_q r1.length c_q, .int .i64 r2, .int .i64 r3] (0, 0) _ rfl (by exact bl B_t) Try.underlying29 rfl (by kernel_rfl)) rfl ?_
    exact ⟨_, _, rfl, P_q.out, L_q.out, HU.out.below0⟩
end Go.Proofs.Ytomaajagncjiiaa.PC
