/- The reference for events: a constructed element. -/
import Derived.Test.YtomaajagncjiiaaPCx0
import Derived.Test.YtomaajagncjiiaaPCx11
import Derived.Test.YtomaajagncjiiaaZA
import Derived.Outline
namespace Go.Proofs.Ytomaajagncjiiaa.PC
open Go.RowKit Go.Proofs.YtomaajagncjiiaaW.PrintWords Go.Proofs.YtomaajagncjiiaaW.PrintLast Go.Proofs.YtomaajagncjiiaaW.PrintMore Go.Proofs.Ytomaajagncjiiaa.Own
attribute [local go_sem] max2_int min2_int max_two min_two max_three min_three max_four min_four
set_option linter.unusedVariables false
set_option linter.unusedSimpArgs false
set_option maxHeartbeats 8000000 in
set_option maxRecDepth 100000 in
theorem elem_cons (a : ByteArray) (A : Option Addr) (c : Nat) (l : List Ev) (p en op most t1 t2 : Int) (t3 : Bool) (t4 la er : Int) (w : World) (hC : Cs w A l) (hc : l.length ≤ c) (hl : l.length ≤ 10000) (hs : a.size ≤ 700) (hp0 : 0 ≤ p) (hp1 : p ≤ a.size) (hn0 : -1 ≤ en) (hn1 : en ≤ 2305843009213694999) (ho0 : 0 ≤ op) (ho1 : op ≤ 64) (hm0 : 0 ≤ most) (hm1 : most ≤ 64) (hst : ∀ w, Calls Try.prog 33 #[.string a, .int .i64 p, .int .i64 en] w fun e w' => e = .returned (.tuple #[.agg #[.int .i64 t1, .int .i64 t2, .bool t3, .int .i64 t4], .int .i64 la, .int .i64 er]) ∧ Below w.heap.size w w') (g : Nat) (T : Int → Int → Hd × Int × Int) (hT : GoodT a T) (r1 : List Ev) (r2 r3 : Int) (he : er = 0) (hla0 : 0 ≤ la) (hla1 : la ≤ 700) (ht0 : 0 ≤ t4) (ht1 : t4 ≤ 2305843009213693951) (hla2 : la + 1 ≤ a.size) (hpl : p ≤ la) (hlp : (l.length : Int) ≤ 3 * p) (hb : ¬ (0 ≤ en ∧ en - (la + 1) < t4)) (h3 : t3 = true) (h4 : ¬ op = most) (hIH : ∀ g' : Nat, g' < g → ∀ (l : List Ev) (A : Option Addr) (c : Nat) (p : Int) (w : World) (q1 : List Ev) (q2 q3 : Int), Cs w A l → l.length ≤ c → 0 ≤ p → p ≤ a.size → (l.length : Int) ≤ 3 * p → elX a T most g' false l p (la + 1 + t4) (op + 1) = some (q1, q2, q3) → Calls Try.prog 23 #[.string a, .slice A l.length c, .int .i64 p, .int .i64 (la + 1 + t4), .int .i64 (op + 1), .int .i64 most] w fun e w' => ∃ A2 c2, e = .returned (.agg #[.slice A2 q1.length c2, .int .i64 q2, .int .i64 q3]) ∧ Cs w' A2 q1 ∧ q1.length ≤ c2 ∧ Below w.heap.size w w') (hr : elX a T most g true (l ++ [ev 1 la ⟨t1, t2, t3, t4⟩ 0]) (la + 1) (la + 1 + t4) op = some (r1, r2, r3)) :
    Calls Try.prog 23 #[.string a, .slice A l.length c, .int .i64 p, .int .i64 en, .int .i64 op, .int .i64 most] w fun e w' => ∃ A2 c2, e = .returned (.agg #[.slice A2 r1.length c2, .int .i64 r2, .int .i64 r3]) ∧ Cs w' A2 r1 ∧ r1.length ≤ c2 ∧ Below w.heap.size w w' := by
  have P_l := Aside0.mk hC
  have LC := Aside0.mk hc
  have HU := Aside0.mk (Upd.refl None0 w)
  have HS := Aside0.mk hst
  have LL := Aside0.mk (show l.length ≤ 1000000 by omega)
  have hcase : (decide (0 ≤ en) = true ∧ decide (en - (la + 1) < t4) = false) ∨ (decide (0 ≤ en) = false ∧ True) := by
    by_cases hb0 : 0 ≤ en
    · exact .inl ⟨decide_eq_true hb0, decide_eq_false (fun h => hb ⟨hb0, h⟩)⟩
    · exact .inr ⟨decide_eq_false hb0, trivial⟩
  subst he
  clear hb
  obtain ⟨m, hm⟩ : ∃ q, l ++ [ev 1 la ⟨t1, t2, t3, t4⟩ 0] = q := ⟨_, rfl⟩
  rw [hm] at hr
  have X2 := Aside0.mk (show l ++ [(⟨1, la, ⟨t1, t2, t3, t4⟩, 0⟩ : Ev)] = m from hm)
  have XR := Aside0.mk hr
  have IH := Aside0.mk hIH
  have HS7 := Aside0.mk hs
  have LA := Aside0.mk hla2
  have LM := Aside0.mk (show (m.length : Int) + 1 ≤ 3 * (la + 1) by rw [← hm, List.length_append]; simp; omega)
  have HT := Aside0.mk hT
  have y4 : (!t3) = false := by rw [h3]; rfl
  have y5 : (op == most) = false := beq_eq_false_iff_ne.2 h4
  clear hm hr h3 h4 hIH hT
  clear hC hc hst hl
  go_enter Try.func23, Try.ntmps23
  rcases hcase with ⟨y2, y3⟩ | ⟨y2, y3⟩
  all_goals
    go_wp2_with (first
      | ((with_reducible refine gate_dst (N := 12) rfl ?_)
         refine boxnew ?hg (N := 12) ?hd (cs := #[.slice none 0 0, .int .i64 0, .int .i64 0]) (t := 29) ?hr ?_; (case hd => rfl); (case hg => rfl); (case hr => first | (go_simp; done) | (go_simp; rfl))
         intro g_t hge w1 hbox hu
         have GE_t := Aside0.mk (Nat.le_trans ((by exact ul HU) : Upd None0 w _).size hge)
         replace P_l := Aside0.mk (Cs.updN (by exact P_l.out.updN lu) hu)
         replace HU := Aside0.mk (((by exact ul HU) : Upd None0 w _).trans hu (fun _ h => h.elim))
         clear hu
         have B_t := Aside0.mk hbox; clear hbox hge
         have hc_t_0 := co B_t 0 (.slice none 0 0) rfl; have hc_t_1 := co B_t 1 (.int .i64 0) rfl; have hc_t_2 := co B_t 2 (.int .i64 0) rfl)
      | (go_at_call 33
         (with_reducible refine (HS.out _).mono ?_)
         rintro e w2 ⟨rfl, hb⟩
         have hu := (Upd.of_below hb : Upd None0 _ _)
         replace B_t := Aside0.mk (hu.blk (by exact bl B_t) (fun h => h))
         replace P_l := Aside0.mk (Cs.updN (by exact P_l.out.updN lu) hu)
         replace HU := Aside0.mk (((by exact ul HU) : Upd None0 w _).trans hu (fun _ h => h.elim))
         clear hu
         (try clear hc_t_0 hc_t_1 hc_t_2)
         have hc_t_0 := co B_t 0 (.slice none 0 0) rfl; have hc_t_1 := co B_t 1 (.int .i64 0) rfl; have hc_t_2 := co B_t 2 (.int .i64 0) rfl)
      | ((with_reducible refine gate_dst (N := 13) rfl ?_)
         refine boxnew ?hg (N := 13) ?hd (cs := #[.int .i64 0, .int .i64 0, .bool false, .int .i64 0]) (t := 34) ?hr ?_; (case hd => rfl); (case hg => rfl); (case hr => first | (go_simp; done) | (go_simp; rfl))
         intro g_H hge w3 hbox hu
         have NE_H_t := Aside0.mk (Ne.symm (blk_fresh (by exact bl B_t) hge))
         have GE_H := Aside0.mk (Nat.le_trans ((by exact ul HU) : Upd None0 w _).size hge)
         replace B_t := Aside0.mk (hu.blk (by exact bl B_t) (fun h => h))
         replace P_l := Aside0.mk (Cs.updN (by exact P_l.out.updN lu) hu)
         replace HU := Aside0.mk (((by exact ul HU) : Upd None0 w _).trans hu (fun _ h => h.elim))
         clear hu
         have B_H := Aside0.mk hbox; clear hbox hge
         (try clear hc_t_0 hc_t_1 hc_t_2)
         have hc_t_0 := co B_t 0 (.slice none 0 0) rfl; have hc_t_1 := co B_t 1 (.int .i64 0) rfl; have hc_t_2 := co B_t 2 (.int .i64 0) rfl; have hc_H_0 := co B_H 0 (.int .i64 0) rfl; have hc_H_1 := co B_H 1 (.int .i64 0) rfl; have hc_H_2 := co B_H 2 (.bool false) rfl; have hc_H_3 := co B_H 3 (.int .i64 0) rfl)
      | ((with_reducible refine gate_store (t := 34) (p := 13) (v := .tmp 23) rfl ?_)
         refine rowput rfl 34 (.tmp 13) (.tmp 23) rfl rfl g_H #[.int .i64 t1, .int .i64 t2, .bool t3, .int .i64 t4] rfl rfl 34 #[.int .i64 0, .int .i64 0, .bool false, .int .i64 0] (by exact bl B_H) (by kernel_rfl) rfl (by simp [Value.oneCell']) ?_
         intro w4 hbox hu
         replace B_t := Aside0.mk (hu.blk (by exact bl B_t) (Ne.symm NE_H_t.out))
         replace P_l := Aside0.mk (Cs.updT (by exact P_l.out.updN lu) (by exact bl B_H) (by decide) hu)
         replace HU := Aside0.mk (((by exact ul HU) : Upd None0 w _).trans hu (fun k hk => .inr (by rw [hk]; exact GE_H.out)))
         clear hu
         clear B_H; have B_H := Aside0.mk hbox; clear hbox
         (try clear hc_t_0 hc_t_1 hc_t_2 hc_H_0 hc_H_1 hc_H_2 hc_H_3)
         have hc_t_0 := co B_t 0 (.slice none 0 0) rfl; have hc_t_1 := co B_t 1 (.int .i64 0) rfl; have hc_t_2 := co B_t 2 (.int .i64 0) rfl; have hc_H_0 := co B_H 0 (.int .i64 t1) rfl; have hc_H_1 := co B_H 1 (.int .i64 t2) rfl; have hc_H_2 := co B_H 2 (.bool t3) rfl; have hc_H_3 := co B_H 3 (.int .i64 t4) rfl)
      | (go_at_call 35
         (with_reducible refine (and_any A c l _ 1 la t1 t2 t3 t4 0 _ (by exact P_l.out.updN lu) LC.out LL.out X2.out).mono ?_)
         rintro e w5 ⟨A_m, c_m, rfl, hC2, hle2, hb⟩
         have hu := (Upd.of_below hb : Upd None0 _ _)
         replace B_t := Aside0.mk (hu.blk (by exact bl B_t) (fun h => h))
         replace B_H := Aside0.mk (hu.blk (by exact bl B_H) (fun h => h))
         replace P_l := Aside0.mk (Cs.updN (by exact P_l.out.updN lu) hu)
         replace HU := Aside0.mk (((by exact ul HU) : Upd None0 w _).trans hu (fun _ h => h.elim))
         clear hu
         have P_m := Aside0.mk hC2
         have L_m := Aside0.mk hle2
         clear hC2 hle2
         (try clear hc_t_0 hc_t_1 hc_t_2 hc_H_0 hc_H_1 hc_H_2 hc_H_3)
         have hc_t_0 := co B_t 0 (.slice none 0 0) rfl; have hc_t_1 := co B_t 1 (.int .i64 0) rfl; have hc_t_2 := co B_t 2 (.int .i64 0) rfl; have hc_H_0 := co B_H 0 (.int .i64 t1) rfl; have hc_H_1 := co B_H 1 (.int .i64 t2) rfl; have hc_H_2 := co B_H 2 (.bool t3) rfl; have hc_H_3 := co B_H 3 (.int .i64 t4) rfl)
      | ((with_reducible refine gate_dst (N := 17) rfl ?_)
         refine boxnew ?hg (N := 17) ?hd (cs := #[.slice none 0 0, .int .i64 0, .int .i64 0]) (t := 29) ?hr ?_; (case hd => rfl); (case hg => rfl); (case hr => first | (go_simp; done) | (go_simp; rfl))
         intro g_u hge w6 hbox hu
         have NE_t_u := Aside0.mk (blk_fresh (by exact bl B_t) hge)
         have NE_H_u := Aside0.mk (blk_fresh (by exact bl B_H) hge)
         have GE_u := Aside0.mk (Nat.le_trans ((by exact ul HU) : Upd None0 w _).size hge)
         replace B_t := Aside0.mk (hu.blk (by exact bl B_t) (fun h => h))
         replace B_H := Aside0.mk (hu.blk (by exact bl B_H) (fun h => h))
         replace P_m := Aside0.mk (Cs.updN (by exact P_m.out.updN lu) hu)
         replace HU := Aside0.mk (((by exact ul HU) : Upd None0 w _).trans hu (fun _ h => h.elim))
         clear hu
         have B_u := Aside0.mk hbox; clear hbox hge
         (try clear hc_t_0 hc_t_1 hc_t_2 hc_H_0 hc_H_1 hc_H_2 hc_H_3)
         have hc_t_0 := co B_t 0 (.slice none 0 0) rfl; have hc_t_1 := co B_t 1 (.int .i64 0) rfl; have hc_t_2 := co B_t 2 (.int .i64 0) rfl; have hc_H_0 := co B_H 0 (.int .i64 t1) rfl; have hc_H_1 := co B_H 1 (.int .i64 t2) rfl; have hc_H_2 := co B_H 2 (.bool t3) rfl; have hc_H_3 := co B_H 3 (.int .i64 t4) rfl; have hc_u_0 := co B_u 0 (.slice none 0 0) rfl; have hc_u_1 := co B_u 1 (.int .i64 0) rfl; have hc_u_2 := co B_u 2 (.int .i64 0) rfl)
      | ((with_reducible refine gate_store (t := 29) (p := 17) (v := .tmp 72) rfl ?_)
         refine rowput rfl 29 (.tmp 17) (.tmp 72) rfl rfl g_u #[.slice A_m m.length c_m, .int .i64 0, .int .i64 (la + 1)] rfl rfl 29 #[.slice none 0 0, .int .i64 0, .int .i64 0] (by exact bl B_u) (by kernel_rfl) rfl (by simp [Value.oneCell']) ?_
         intro w7 hbox hu
         replace B_t := Aside0.mk (hu.blk (by exact bl B_t) NE_t_u.out)
         replace B_H := Aside0.mk (hu.blk (by exact bl B_H) NE_H_u.out)
         replace P_m := Aside0.mk (Cs.updT (by exact P_m.out.updN lu) (by exact bl B_u) (by decide) hu)
         replace HU := Aside0.mk (((by exact ul HU) : Upd None0 w _).trans hu (fun k hk => .inr (by rw [hk]; exact GE_u.out)))
         clear hu
         clear B_u; have B_u := Aside0.mk hbox; clear hbox
         (try clear hc_t_0 hc_t_1 hc_t_2 hc_H_0 hc_H_1 hc_H_2 hc_H_3 hc_u_0 hc_u_1 hc_u_2)
         have hc_t_0 := co B_t 0 (.slice none 0 0) rfl; have hc_t_1 := co B_t 1 (.int .i64 0) rfl; have hc_t_2 := co B_t 2 (.int .i64 0) rfl; have hc_H_0 := co B_H 0 (.int .i64 t1) rfl; have hc_H_1 := co B_H 1 (.int .i64 t2) rfl; have hc_H_2 := co B_H 2 (.bool t3) rfl; have hc_H_3 := co B_H 3 (.int .i64 t4) rfl; have hc_u_0 := co B_u 0 (.slice A_m m.length c_m) rfl; have hc_u_1 := co B_u 1 (.int .i64 0) rfl; have hc_u_2 := co B_u 2 (.int .i64 (la + 1)) rfl))
    (try simp only [Act.put, List.setIfInBounds_toArray, List.set_cons_zero, List.set_cons_succ])
    clear hc_t_0 hc_t_1 hc_t_2 hc_H_0 hc_H_1 hc_H_2 hc_H_3 hc_u_0 hc_u_1 hc_u_2
    go_loopg [73] g (fun gk v73 wr => ∃ (at_ : Int) (xs : List Ev) (A1 : Option Addr) (c1 : Nat), Aside0 (elX a T most gk true xs at_ (la + 1 + t4) op = some (r1, r2, r3) ∧ la + 1 ≤ at_ ∧ at_ ≤ a.size ∧ (xs.length : Int) + 1 ≤ 3 * at_ ∧ xs.length ≤ c1 ∧ gk ≤ g) ∧ Aside0 (Cs wr A1 xs) ∧ Aside0 (wr.heap[g_t]? = some (.cells #[.slice none 0 0, .int .i64 0, .int .i64 0] 29 (0, 0))) ∧ Aside0 (wr.heap[g_u]? = some (.cells #[.slice A1 xs.length c1, .int .i64 0, .int .i64 at_] 29 (0, 0))) ∧ Aside0 (wr.heap[g_H]? = some (.cells #[.int .i64 t1, .int .i64 t2, .bool t3, .int .i64 t4] 34 (0, 0))) ∧ Aside0 (Upd None0 w wr))
    case atStart => exact ⟨la + 1, m, A_m, c_m, ⟨XR.out, Int.le_refl _, LA.out, LM.out, L_m.out, Nat.le_refl _⟩, P_m, B_t, B_u, B_H, HU⟩
    case round =>
      clear P_m B_t B_u B_H HU L_m
      obtain ⟨at_, xs, A1, c1, HI, P_l, B_t, B_u, B_H, HU⟩ := hrel
      have hat0 : 0 ≤ at_ := by have := HI.out.2.1; omega
      have hat2 : 1 ≤ at_ := by have := HI.out.2.1; omega
      have hat1 : at_ ≤ 700 := by have := HI.out.2.2.1; have := HS7.out; omega
      have hat3 : IntKind.i64.wrap (at_ - 1) = at_ - 1 := by rw [i64_w]; unfold wrap64; omega
      cases gk with
      | zero => exact absurd HI.out.1 (by simp [elX])
      | succ g2 =>
      have h9 := HI.out.1
      simp only [elX] at h9
      by_cases hlt : at_ < la + 1 + t4
      case neg =>
        rw [if_neg hlt] at h9
        simp only [Option.some.injEq, Prod.mk.injEq] at h9
        obtain ⟨e1, e2, e3⟩ := h9
        subst e2 e3
        have hltd : decide (at_ < la + 1 + t4) = false := decide_eq_false hlt
        have X5 := Aside0.mk (show xs ++ [(⟨5, IntKind.i64.wrap (at_ - 1), ⟨0, 0, false, 0⟩, 0⟩ : Ev)] = r1 by rw [hat3]; exact e1)
        clear hat3
        have LX := Aside0.mk (show xs.length ≤ 1000000 by have := HI.out.2.2.2.1; omega)
        clear e1 hlt
        have hf_t_0 : wr.frozen? ⟨g_t, 0, none⟩ = false := blk_frozen B_t.out 0; have hc_t_0 := co B_t 0 (.slice none 0 0) rfl; have hf_t_1 : wr.frozen? ⟨g_t, 1, none⟩ = false := blk_frozen B_t.out 1; have hc_t_1 := co B_t 1 (.int .i64 0) rfl; have hf_t_2 : wr.frozen? ⟨g_t, 2, none⟩ = false := blk_frozen B_t.out 2; have hc_t_2 := co B_t 2 (.int .i64 0) rfl; have hc_u_0 := co B_u 0 (.slice A1 xs.length c1) rfl; have hc_u_1 := co B_u 1 (.int .i64 0) rfl; have hc_u_2 := co B_u 2 (.int .i64 at_) rfl; have hc_H_0 := co B_H 0 (.int .i64 t1) rfl; have hc_H_1 := co B_H 1 (.int .i64 t2) rfl; have hc_H_2 := co B_H 2 (.bool t3) rfl; have hc_H_3 := co B_H 3 (.int .i64 t4) rfl
        go_wp2
        clear hltd B_H hc_H_0 hc_H_1 hc_H_2 hc_H_3
        (try clear y1)
        (try clear y2)
        (try clear y3)
        (try clear y4)
        (try clear y5)
        (try clear hs)
        (try clear hp0)
        (try clear hp1)
        (try clear hn0)
        (try clear hn1)
        (try clear ho0)
        (try clear ho1)
        (try clear hm0)
        (try clear hm1)
        (try clear hla0)
        (try clear hla1)
        (try clear ht0)
        (try clear ht1)
        (try clear hla2)
        (try clear hpl)
        (try clear hlp)
        (try clear HT)
        (try clear IH)
        (try clear XR)
        (try clear LM)
        (try clear LA)
        (try clear HS)
        (try clear HS7)
        (try clear X2)
        (try clear LC)
        (try clear LL)
        (try clear hcase)
        (try clear hu_)
        (try clear NE_H_t)
        (try clear NE_H_u)
        (try clear GE_H)
        (try clear GE_u)
        go_region_held3 (fun w' => w'.cell? ⟨g_u, 0, none⟩ = some (.slice A1 xs.length c1) ∧ w'.cell? ⟨g_u, 2, none⟩ = some (.int .i64 at_)) (first | go_keep | exact ⟨hc_u_0, hc_u_2⟩ | (have nz_ : g_u ≠ g_t := Ne.symm NE_t_u.out; exact ⟨(cell_far (p := ⟨g_t, 2, none⟩) nz_ _).trans ((cell_far (p := ⟨g_t, 1, none⟩) nz_ _).trans ((cell_far (p := ⟨g_t, 0, none⟩) nz_ _).trans hc_u_0)), (cell_far (p := ⟨g_t, 2, none⟩) nz_ _).trans ((cell_far (p := ⟨g_t, 1, none⟩) nz_ _).trans ((cell_far (p := ⟨g_t, 0, none⟩) nz_ _).trans hc_u_2))⟩)) (first
          | (go_at_call 35
             (with_reducible refine (and_any A1 c1 xs _ 5 (IntKind.i64.wrap (at_ - 1)) 0 0 false 0 0 _ (by exact P_l.out.updN lu) HI.out.2.2.2.2.1 LX.out X5.out).mono ?_)
             rintro e w1 ⟨A_f, c_f, rfl, hC2, hle2, hb⟩
             have hu := (Upd.of_below hb : Upd None0 _ _)
             replace B_t := Aside0.mk (hu.blk (by exact bl B_t) (fun h => h))
             replace B_u := Aside0.mk (hu.blk (by exact bl B_u) (fun h => h))
             replace P_l := Aside0.mk (Cs.updN (by exact P_l.out.updN lu) hu)
             replace HU := Aside0.mk (((by exact ul HU) : Upd None0 w _).trans hu (fun _ h => h.elim))
             clear hu
             have P_f := Aside0.mk hC2
             have L_f := Aside0.mk hle2
             clear hC2 hle2
             (try clear hc_t_0 hf_t_0 hc_t_1 hf_t_1 hc_t_2 hf_t_2 hc_u_0 hc_u_1 hc_u_2)
             have hf_t_0 : w1.frozen? ⟨g_t, 0, none⟩ = false := blk_frozen B_t.out 0; have hc_t_0 := co B_t 0 (.slice none 0 0) rfl; have hf_t_1 : w1.frozen? ⟨g_t, 1, none⟩ = false := blk_frozen B_t.out 1; have hc_t_1 := co B_t 1 (.int .i64 0) rfl; have hf_t_2 : w1.frozen? ⟨g_t, 2, none⟩ = false := blk_frozen B_t.out 2; have hc_t_2 := co B_t 2 (.int .i64 0) rfl; have hc_u_0 := co B_u 0 (.slice A1 xs.length c1) rfl; have hc_u_1 := co B_u 1 (.int .i64 0) rfl; have hc_u_2 := co B_u 2 (.int .i64 at_) rfl))
        all_goals (
          go_wp2
          have B9 := blk_set (blk_set (blk_set B_t.out 0 (.slice A_f r1.length c_f)) 1 (.int .i64 0)) 2 (.int .i64 at_)
          have U9 := Upd.setCell (Upd.setCell (Upd.setCell (Upd.refl (fun k => k = g_t) w1) (j := 0) (.inl rfl) (.slice A_f r1.length c_f)) (j := 1) (.inl rfl) (.int .i64 0)) (j := 2) (.inl rfl) (.int .i64 at_)
          refine bodyPost_ret (results_c rfl _ _ g_t 29 #[.slice A_f r1.length c_f, .int .i64 0, .int .i64 at_] (0, 0) _ rfl (by first | exact B9 | (refine blk_drew ?_; exact B9)) Try.underlying29 rfl (by kernel_rfl)) rfl ?_
          exact ⟨_, _, rfl, P_f.out.updT B_t.out (by decide) U9, L_f.out, (HU.out.trans U9 (fun k hk => .inr (by rw [hk]; exact GE_t.out))).below0⟩)
      case pos =>
        rw [if_pos hlt] at h9
        have hltd : decide (at_ < la + 1 + t4) = true := decide_eq_true hlt
        obtain ⟨⟨q1, q2, q3⟩, hq, h9⟩ := Option.bind_eq_some_iff.mp h9
        have HQ0 := Aside0.mk hat0
        have HQ1 := Aside0.mk HI.out.2.2.1
        have HQ2 := Aside0.mk (show (xs.length : Int) ≤ 3 * at_ by have := HI.out.2.2.2.1; omega)
        have hg2 : g2 < g := by have := HI.out.2.2.2.2.2; omega
        by_cases hq2 : q2 = 0
        case neg =>
          rw [if_pos hq2] at h9
          simp only [Option.some.injEq, Prod.mk.injEq] at h9
          obtain ⟨rfl, rfl, rfl⟩ := h9
          have HQE := Aside0.mk hq
          have y6 : (q2 != 0) = true := bne_iff_ne.2 hq2
          clear hq hq2 hlt
          have hc_t_0 := co B_t 0 (.slice none 0 0) rfl; have hc_t_1 := co B_t 1 (.int .i64 0) rfl; have hc_t_2 := co B_t 2 (.int .i64 0) rfl; have hc_u_0 := co B_u 0 (.slice A1 xs.length c1) rfl; have hc_u_1 := co B_u 1 (.int .i64 0) rfl; have hc_u_2 := co B_u 2 (.int .i64 at_) rfl; have hc_H_0 := co B_H 0 (.int .i64 t1) rfl; have hc_H_1 := co B_H 1 (.int .i64 t2) rfl; have hc_H_2 := co B_H 2 (.bool t3) rfl; have hc_H_3 := co B_H 3 (.int .i64 t4) rfl
          go_wp2_with (first
            | (go_at_call 23
               (with_reducible refine (IH.out g2 (by omega) xs A1 c1 at_ _ q1 q2 q3 (by exact P_l.out.updN lu) HI.out.2.2.2.2.1 HQ0.out HQ1.out HQ2.out HQE.out).mono ?_)
               rintro e w1 ⟨A_q, c_q, rfl, hC2, hle2, hb⟩
               have hu := (Upd.of_below hb : Upd None0 _ _)
               replace B_t := Aside0.mk (hu.blk (by exact bl B_t) (fun h => h))
               replace B_u := Aside0.mk (hu.blk (by exact bl B_u) (fun h => h))
               replace B_H := Aside0.mk (hu.blk (by exact bl B_H) (fun h => h))
               replace P_l := Aside0.mk (Cs.updN (by exact P_l.out.updN lu) hu)
               replace HU := Aside0.mk (((by exact ul HU) : Upd None0 w _).trans hu (fun _ h => h.elim))
               clear hu
               have P_q := Aside0.mk hC2
               have L_q := Aside0.mk hle2
               clear hC2 hle2
               (try clear hc_t_0 hc_t_1 hc_t_2 hc_u_0 hc_u_1 hc_u_2 hc_H_0 hc_H_1 hc_H_2 hc_H_3)
               have hc_t_0 := co B_t 0 (.slice none 0 0) rfl; have hc_t_1 := co B_t 1 (.int .i64 0) rfl; have hc_t_2 := co B_t 2 (.int .i64 0) rfl; have hc_u_0 := co B_u 0 (.slice A1 xs.length c1) rfl; have hc_u_1 := co B_u 1 (.int .i64 0) rfl; have hc_u_2 := co B_u 2 (.int .i64 at_) rfl; have hc_H_0 := co B_H 0 (.int .i64 t1) rfl; have hc_H_1 := co B_H 1 (.int .i64 t2) rfl; have hc_H_2 := co B_H 2 (.bool t3) rfl; have hc_H_3 := co B_H 3 (.int .i64 t4) rfl)
            | ((with_reducible refine gate_store (t := 29) (p := 17) (v := .tmp 92) rfl ?_)
               refine rowput rfl 29 (.tmp 17) (.tmp 92) rfl rfl g_u #[.slice A_q q1.length c_q, .int .i64 q2, .int .i64 q3] rfl rfl 29 #[.slice A1 xs.length c1, .int .i64 0, .int .i64 at_] (by exact bl B_u) (by kernel_rfl) rfl (by simp [Value.oneCell']) ?_
               intro w2 hbox hu
               replace B_t := Aside0.mk (hu.blk (by exact bl B_t) NE_t_u.out)
               replace B_H := Aside0.mk (hu.blk (by exact bl B_H) NE_H_u.out)
               replace P_q := Aside0.mk (Cs.updT (by exact P_q.out.updN lu) (by exact bl B_u) (by decide) hu)
               replace HU := Aside0.mk (((by exact ul HU) : Upd None0 w _).trans hu (fun k hk => .inr (by rw [hk]; exact GE_u.out)))
               clear hu
               clear B_u; have B_u := Aside0.mk hbox; clear hbox
               (try clear hc_t_0 hc_t_1 hc_t_2 hc_u_0 hc_u_1 hc_u_2 hc_H_0 hc_H_1 hc_H_2 hc_H_3)
               have hc_t_0 := co B_t 0 (.slice none 0 0) rfl; have hc_t_1 := co B_t 1 (.int .i64 0) rfl; have hc_t_2 := co B_t 2 (.int .i64 0) rfl; have hc_u_0 := co B_u 0 (.slice A_q q1.length c_q) rfl; have hc_u_1 := co B_u 1 (.int .i64 q2) rfl; have hc_u_2 := co B_u 2 (.int .i64 q3) rfl; have hc_H_0 := co B_H 0 (.int .i64 t1) rfl; have hc_H_1 := co B_H 1 (.int .i64 t2) rfl; have hc_H_2 := co B_H 2 (.bool t3) rfl; have hc_H_3 := co B_H 3 (.int .i64 t4) rfl)
            | ((with_reducible refine gate_store (t := 29) (p := 12) (v := .tmp 96) rfl ?_)
               refine rowput rfl 29 (.tmp 12) (.tmp 96) rfl rfl g_t #[.slice A_q q1.length c_q, .int .i64 q2, .int .i64 q3] rfl rfl 29 #[.slice none 0 0, .int .i64 0, .int .i64 0] (by exact bl B_t) (by kernel_rfl) rfl (by simp [Value.oneCell']) ?_
               intro w3 hbox hu
               replace B_u := Aside0.mk (hu.blk (by exact bl B_u) (Ne.symm NE_t_u.out))
               replace B_H := Aside0.mk (hu.blk (by exact bl B_H) NE_H_t.out)
               replace P_q := Aside0.mk (Cs.updT (by exact P_q.out.updN lu) (by exact bl B_t) (by decide) hu)
               replace HU := Aside0.mk (((by exact ul HU) : Upd None0 w _).trans hu (fun k hk => .inr (by rw [hk]; exact GE_t.out)))
               clear hu
               clear B_t; have B_t := Aside0.mk hbox; clear hbox
               (try clear hc_t_0 hc_t_1 hc_t_2 hc_u_0 hc_u_1 hc_u_2 hc_H_0 hc_H_1 hc_H_2 hc_H_3)
               have hc_t_0 := co B_t 0 (.slice A_q q1.length c_q) rfl; have hc_t_1 := co B_t 1 (.int .i64 q2) rfl; have hc_t_2 := co B_t 2 (.int .i64 q3) rfl; have hc_u_0 := co B_u 0 (.slice A_q q1.length c_q) rfl; have hc_u_1 := co B_u 1 (.int .i64 q2) rfl; have hc_u_2 := co B_u 2 (.int .i64 q3) rfl; have hc_H_0 := co B_H 0 (.int .i64 t1) rfl; have hc_H_1 := co B_H 1 (.int .i64 t2) rfl; have hc_H_2 := co B_H 2 (.bool t3) rfl; have hc_H_3 := co B_H 3 (.int .i64 t4) rfl))
          refine bodyPost_ret (results_c rfl _ _ g_t 29 #[.slice A_q q1.length c_q, .int .i64 q2, .int .i64 q3] (0, 0) _ rfl (by exact bl B_t) Try.underlying29 rfl (by kernel_rfl)) rfl ?_
          exact ⟨_, _, rfl, P_q.out, L_q.out, HU.out.below0⟩
        case pos =>
          subst hq2
          have HQE := Aside0.mk hq
          have HQN := Aside0.mk (show elX a T most g2 true q1 q3 (la + 1 + t4) op = some (r1, r2, r3) by simpa using h9)
          have hln := elX_len a T most HT.out g2 false xs at_ (la + 1 + t4) (op + 1) 1 (q1, 0, q3) hq hat0 HI.out.2.2.1 rfl (by have := HI.out.2.2.2.1; simp; omega)
          have HQL := Aside0.mk (show la + 1 ≤ q3 ∧ q3 ≤ a.size ∧ (q1.length : Int) + 1 ≤ 3 * q3 from ⟨by have := HI.out.2.1; have := hln.2.1; simp only at this; omega, hln.2.2.2, hln.1⟩)
          clear hq h9 hln hlt
          have hc_t_0 := co B_t 0 (.slice none 0 0) rfl; have hc_t_1 := co B_t 1 (.int .i64 0) rfl; have hc_t_2 := co B_t 2 (.int .i64 0) rfl; have hc_u_0 := co B_u 0 (.slice A1 xs.length c1) rfl; have hc_u_1 := co B_u 1 (.int .i64 0) rfl; have hc_u_2 := co B_u 2 (.int .i64 at_) rfl; have hc_H_0 := co B_H 0 (.int .i64 t1) rfl; have hc_H_1 := co B_H 1 (.int .i64 t2) rfl; have hc_H_2 := co B_H 2 (.bool t3) rfl; have hc_H_3 := co B_H 3 (.int .i64 t4) rfl
          go_wp2_with (first
            | (go_at_call 23
               (with_reducible refine (IH.out g2 (by omega) xs A1 c1 at_ _ q1 0 q3 (by exact P_l.out.updN lu) HI.out.2.2.2.2.1 HQ0.out HQ1.out HQ2.out HQE.out).mono ?_)
               rintro e w1 ⟨A_q, c_q, rfl, hC2, hle2, hb⟩
               have hu := (Upd.of_below hb : Upd None0 _ _)
               replace B_t := Aside0.mk (hu.blk (by exact bl B_t) (fun h => h))
               replace B_u := Aside0.mk (hu.blk (by exact bl B_u) (fun h => h))
               replace B_H := Aside0.mk (hu.blk (by exact bl B_H) (fun h => h))
               replace P_l := Aside0.mk (Cs.updN (by exact P_l.out.updN lu) hu)
               replace HU := Aside0.mk (((by exact ul HU) : Upd None0 w _).trans hu (fun _ h => h.elim))
               clear hu
               have P_q := Aside0.mk hC2
               have L_q := Aside0.mk hle2
               clear hC2 hle2
               (try clear hc_t_0 hc_t_1 hc_t_2 hc_u_0 hc_u_1 hc_u_2 hc_H_0 hc_H_1 hc_H_2 hc_H_3)
               have hc_t_0 := co B_t 0 (.slice none 0 0) rfl; have hc_t_1 := co B_t 1 (.int .i64 0) rfl; have hc_t_2 := co B_t 2 (.int .i64 0) rfl; have hc_u_0 := co B_u 0 (.slice A1 xs.length c1) rfl; have hc_u_1 := co B_u 1 (.int .i64 0) rfl; have hc_u_2 := co B_u 2 (.int .i64 at_) rfl; have hc_H_0 := co B_H 0 (.int .i64 t1) rfl; have hc_H_1 := co B_H 1 (.int .i64 t2) rfl; have hc_H_2 := co B_H 2 (.bool t3) rfl; have hc_H_3 := co B_H 3 (.int .i64 t4) rfl)
            | ((with_reducible refine gate_store (t := 29) (p := 17) (v := .tmp 92) rfl ?_)
               refine rowput rfl 29 (.tmp 17) (.tmp 92) rfl rfl g_u #[.slice A_q q1.length c_q, .int .i64 0, .int .i64 q3] rfl rfl 29 #[.slice A1 xs.length c1, .int .i64 0, .int .i64 at_] (by exact bl B_u) (by kernel_rfl) rfl (by simp [Value.oneCell']) ?_
               intro w2 hbox hu
               replace B_t := Aside0.mk (hu.blk (by exact bl B_t) NE_t_u.out)
               replace B_H := Aside0.mk (hu.blk (by exact bl B_H) NE_H_u.out)
               replace P_q := Aside0.mk (Cs.updT (by exact P_q.out.updN lu) (by exact bl B_u) (by decide) hu)
               replace HU := Aside0.mk (((by exact ul HU) : Upd None0 w _).trans hu (fun k hk => .inr (by rw [hk]; exact GE_u.out)))
               clear hu
               clear B_u; have B_u := Aside0.mk hbox; clear hbox
               (try clear hc_t_0 hc_t_1 hc_t_2 hc_u_0 hc_u_1 hc_u_2 hc_H_0 hc_H_1 hc_H_2 hc_H_3)
               have hc_t_0 := co B_t 0 (.slice none 0 0) rfl; have hc_t_1 := co B_t 1 (.int .i64 0) rfl; have hc_t_2 := co B_t 2 (.int .i64 0) rfl; have hc_u_0 := co B_u 0 (.slice A_q q1.length c_q) rfl; have hc_u_1 := co B_u 1 (.int .i64 0) rfl; have hc_u_2 := co B_u 2 (.int .i64 q3) rfl; have hc_H_0 := co B_H 0 (.int .i64 t1) rfl; have hc_H_1 := co B_H 1 (.int .i64 t2) rfl; have hc_H_2 := co B_H 2 (.bool t3) rfl; have hc_H_3 := co B_H 3 (.int .i64 t4) rfl))
          go_roundg g2
          case measure => omega
          case rel => exact ⟨q3, q1, A_q, c_q, ⟨HQN.out, HQL.out.1, HQL.out.2.1, HQL.out.2.2, L_q.out, by have := HI.out.2.2.2.2.2; omega⟩, P_q, B_t, B_u, B_H, HU⟩
end Go.Proofs.Ytomaajagncjiiaa.PC
