/- The law EventWhole, walked by hand. -/
import Derived.Test.YtomaajagncjiiaaPCx0
import Derived.Test.YtomaajagncjiiaaPCx6
import Derived.Test.YtomaajagncjiiaaPCx7
import Derived.Test.YtomaajagncjiiaaPCx11
import Derived.Test.YtomaajagncjiiaaZD
import Derived.Test.YtomaajagncjiiaaMWh
import Derived.Test.YtomaajagncjiiaaBs
import Derived.Outline
namespace Go.Proofs.Ytomaajagncjiiaa.PC
open Go.RowKit Go.Proofs.YtomaajagncjiiaaW.PrintWords Go.Proofs.YtomaajagncjiiaaW.PrintLast Go.Proofs.YtomaajagncjiiaaW.PrintMore Go.Proofs.Ytomaajagncjiiaa.Own
attribute [local go_sem] max2_int min2_int max_two min_two max_three min_three max_four min_four
set_option linter.unusedVariables false
set_option linter.unusedSimpArgs false
theorem cs_nil {w : World} : Cs w none ([] : List Ev) := by
  obtain ⟨A, c, e, _, h⟩ := cs_row (Kd.R_nil k36 36 w 0 None0 : k36.R 36 w 0 None0 (.slice none 0 0) ([] : List Ev))
  cases e
  exact h
theorem start_T (a : ByteArray) (hs : a.size ≤ 700) : StartT a (Tst a) := by
  intro p en w h0 h1 h2 h3
  exact (gantletref09_start.calls 3000 a p en _ _ _ _ _ _ w (start_ok a hs p en h0 h1)).mono fun e w' ⟨h4, h5⟩ => ⟨h4, h5⟩
/-- The reference's Whole: what the machine's run comes to. -/
theorem refW_any (a : ByteArray) (dp : Int) (hs : a.size ≤ 700) (r1 : List Ev) (r2 r3 : Int) (h : event_Whole.f a dp = some (r1, r2, r3)) (w : World) :
    Calls Try.prog 14 #[.string a, .int .i64 dp] w fun e w' => ∃ A2 c2, e = .returned (.agg #[.slice A2 r1.length c2, .int .i64 r2, .int .i64 r3]) ∧ Cs w' A2 r1 ∧ r1.length ≤ c2 ∧ Below w.heap.size w w' := by
  have hm : (0 : Int) ≤ mn (mx dp 0) 64 ∧ mn (mx dp 0) 64 ≤ 64 := by unfold mn mx; (repeat' split) <;> omega
  obtain ⟨dq, hdq⟩ : ∃ q, q = mn (mx dp 0) 64 := ⟨_, rfl⟩
  rw [← hdq] at hm
  unfold event_Whole.f at h
  rw [if_pos hs, ← hdq] at h
  obtain ⟨⟨q1, q2, q3⟩, hq⟩ := (elX_some a (Tst a) dq (good_T a) 2000).1 [] 0 (-1) 0 (Int.le_refl _) (by omega) (by omega)
  have hmo : ((dq.toNat : Nat) : Int) = dq := by omega
  have hwr := whole_ref dq.toNat a 2000 (q1, q2, q3) (by rw [hmo]; exact hq)
  rw [hwr] at h
  have hE : ∀ w, Calls Try.prog 23 #[.string a, .slice none 0 0, .int .i64 0, .int .i64 (-1), .int .i64 0, .int .i64 dq] w fun e w' => ∃ A2 c2, e = .returned (.agg #[.slice A2 q1.length c2, .int .i64 q2, .int .i64 q3]) ∧ Cs w' A2 q1 ∧ q1.length ≤ c2 ∧ Below w.heap.size w w' := fun w =>
    elem_any a (Tst a) (good_T a) (start_T a hs) hs dq hm.1 hm.2 2000 [] none 0 0 (-1) 0 w q1 q2 q3 cs_nil (Nat.le_refl _) (Int.le_refl _) (by omega) (Int.le_refl _) (by decide) (Int.le_refl _) hm.1 (by simp) hq
  by_cases h0 : q2 = 0
  · by_cases h1 : q3 < (a.size : Int)
    · have e : refW a (q1, q2, q3) = (q1, 6, q3) := by unfold refW; rw [if_pos ⟨h0, h1⟩]
      rw [e] at h
      simp only [Option.some.injEq, Prod.mk.injEq] at h
      obtain ⟨rfl, rfl, rfl⟩ := h
      exact refw_more a dp dq q1 q2 q3 w hs hdq h0 h1 hE
    · have e : refW a (q1, q2, q3) = (q1, q2, q3) := by unfold refW; rw [if_neg (fun h => h1 h.2)]
      rw [e] at h
      simp only [Option.some.injEq, Prod.mk.injEq] at h
      obtain ⟨rfl, rfl, rfl⟩ := h
      exact refw_all a dp dq q1 q2 q3 w hs hdq h0 h1 hE
  · have e : refW a (q1, q2, q3) = (q1, q2, q3) := by unfold refW; rw [if_neg (fun h => h0 h.1)]
    rw [e] at h
    simp only [Option.some.injEq, Prod.mk.injEq] at h
    obtain ⟨rfl, rfl, rfl⟩ := h
    exact refw_err a dp dq q1 q2 q3 w hs hdq h0 hE
theorem whole_len (most : Nat) (a : ByteArray) (hm : most ≤ 64) (hs : a.size ≤ 700) : (wholeM most (bytesOf a)).1.length ≤ 50000 := by
  have hw := run_split most (bytesOf a) [] init0 0 [] (Bs.bytes_of a) (inv0 most)
  have hmul : (bytesOf a).length * (most + 3) ≤ 700 * 67 := Nat.mul_le_mul (by rw [bytesOf_length]; omega) (by omega)
  unfold wholeM
  rw [show (0 : Int) = ((0 : Nat) : Int) from rfl]
  rcases hw with ⟨s', xs, c1, c2, c3, c4, c5⟩ | ⟨xs, e, j, c0, c1, c2, c3, c4, c5, c6⟩
  · rw [c4]; simp only [List.nil_append]; omega
  · rw [c5]; simp only [List.nil_append]; omega
set_option maxHeartbeats 8000000 in
set_option maxRecDepth 100000 in
theorem gantletlaw09_EventWhole.any (a : ByteArray) (dp : Int) (w : World) :
    Calls Try.prog 3 #[.string a, .int .i64 dp] w fun e w' => e = .returned (.bool true) ∧ Below w.heap.size w w' := by
  have HA : Aside0 (gantletlaw09_awake.f 100 = some true) := ⟨awake_ok _ (by decide)⟩
  have HU := Aside0.mk (Upd.refl None0 w)
  by_cases hz : (a.size : Int) > 300
  case pos =>
    have HG : Aside0 (gantletlaw09_great.f a = some true) := ⟨by unfold gantletlaw09_great.f; rw [decide_eq_true hz]⟩
    go_enter Try.func3, Try.ntmps3
    go_wp2_with (first
      | (go_at_call 11
         first
         | ((with_reducible refine (gantletlaw09_awake.calls 100 true _ HA.out).mono ?_)
            rintro e w1 ⟨rfl, hb⟩
            have hu := (Upd.of_below hb : Upd None0 _ _)
            replace HU := Aside0.mk (((by exact ul HU) : Upd None0 w _).trans hu (fun _ h => h.elim))
            clear hu)
         | ((with_reducible refine (gantletlaw09_awake.calls 100 true _ HA.out).mono ?_)
            rintro e w3 ⟨rfl, hb⟩
            have hu := (Upd.of_below hb : Upd None0 _ _)
            replace HU := Aside0.mk (((by exact ul HU) : Upd None0 w _).trans hu (fun _ h => h.elim))
            clear hu))
      | (go_at_call 12
         (with_reducible refine (gantletlaw09_great.calls a true _ HG.out).mono ?_)
         rintro e w2 ⟨rfl, hb⟩
         have hu := (Upd.of_below hb.below : Upd None0 _ _)
         replace HU := Aside0.mk (((by exact ul HU) : Upd None0 w _).trans hu (fun _ h => h.elim))
         clear hu))
    go_ret
    exact ⟨rfl, HU.out.below0⟩
  have HG : Aside0 (gantletlaw09_great.f a = some false) := ⟨by unfold gantletlaw09_great.f; rw [decide_eq_false hz]⟩
  have hs : a.size ≤ 700 := by omega
  obtain ⟨⟨r1, r2, r3⟩, hE⟩ : ∃ q, event_Whole.f a dp = some q := ⟨_, by unfold event_Whole.f; rw [if_pos hs]⟩
  have hl : r1.length ≤ 50000 := by
    have hm : (mn (mx dp 0) 64).toNat ≤ 64 := by
      have : mn (mx dp 0) 64 ≤ 64 := by unfold mn; split <;> omega
      omega
    have := whole_len _ a hm hs
    unfold event_Whole.f at hE
    rw [if_pos hs] at hE
    rw [Option.some.inj hE] at this
    exact this
  have HE := Aside0.mk hE
  have HW := Aside0.mk (fun w => refW_any a dp hs r1 r2 r3 hE w)
  have HS : Aside0 (gantletref09_Same.f 100000 r1 r1 = some true) := ⟨same_refl 100000 r1 (by omega) (by omega)⟩
  clear hE hl hs hz
  go_enter Try.func3, Try.ntmps3
  go_wp2_with (first
    | (go_at_call 11
       (with_reducible refine (gantletlaw09_awake.calls 100 true _ HA.out).mono ?_)
       rintro e w1 ⟨rfl, hb⟩
       have hu := (Upd.of_below hb : Upd None0 _ _)
       replace HU := Aside0.mk (((by exact ul HU) : Upd None0 w _).trans hu (fun _ h => h.elim))
       clear hu)
    | (go_at_call 12
       (with_reducible refine (gantletlaw09_great.calls a false _ HG.out).mono ?_)
       rintro e w2 ⟨rfl, hb⟩
       have hu := (Upd.of_below hb.below : Upd None0 _ _)
       replace HU := Aside0.mk (((by exact ul HU) : Upd None0 w _).trans hu (fun _ h => h.elim))
       clear hu)
    | (go_at_call 13
       (with_reducible refine (event_Whole.calls a dp r1 r2 r3 _ HE.out).mono ?_)
       rintro e w3 ⟨v_l, rfl, hR, hb⟩
       have hu := (Upd.of_below hb : Upd None0 _ _)
       replace HU := Aside0.mk (((by exact ul HU) : Upd None0 w _).trans hu (fun _ h => h.elim))
       clear hu
       obtain ⟨A_l, c_l, rfl, hle, hC⟩ := cs_row hR
       have P_l := Aside0.mk hC
       have L_l := Aside0.mk hle
       clear hR hle hC)
    | (go_at_call 14
       (with_reducible refine (HW.out _).mono ?_)
       rintro e w4 ⟨A_q, c_q, rfl, hC2, hle2, hb⟩
       have hu := (Upd.of_below hb : Upd None0 _ _)
       replace P_l := Aside0.mk (Cs.updN (by exact P_l.out.updN lu) hu)
       replace HU := Aside0.mk (((by exact ul HU) : Upd None0 w _).trans hu (fun _ h => h.elim))
       clear hu
       have P_q := Aside0.mk hC2
       have L_q := Aside0.mk hle2
       clear hC2 hle2)
    | ((with_reducible refine gate_dst (N := 8) rfl ?_)
       refine boxnew ?hg (N := 8) ?hd (cs := #[.slice none 0 0, .int .i64 0, .int .i64 0]) (t := 29) ?hr ?_; (case hd => rfl); (case hg => rfl); (case hr => first | (go_simp; done) | (go_simp; rfl))
       intro g_t hge w5 hbox hu
       have GE_t := Aside0.mk (Nat.le_trans ((by exact ul HU) : Upd None0 w _).size hge)
       replace P_l := Aside0.mk (Cs.updN (by exact P_l.out.updN lu) hu)
       replace P_q := Aside0.mk (Cs.updN (by exact P_q.out.updN lu) hu)
       replace HU := Aside0.mk (((by exact ul HU) : Upd None0 w _).trans hu (fun _ h => h.elim))
       clear hu
       have B_t := Aside0.mk hbox; clear hbox hge
       have hc_t_0 := co B_t 0 (.slice none 0 0) rfl; have hc_t_1 := co B_t 1 (.int .i64 0) rfl; have hc_t_2 := co B_t 2 (.int .i64 0) rfl)
    | ((with_reducible refine gate_store (t := 29) (p := 8) (v := .tmp 25) rfl ?_)
       refine rowput rfl 29 (.tmp 8) (.tmp 25) rfl rfl g_t #[.slice A_q r1.length c_q, .int .i64 r2, .int .i64 r3] rfl rfl 29 #[.slice none 0 0, .int .i64 0, .int .i64 0] (by exact bl B_t) (by kernel_rfl) rfl (by simp [Value.oneCell']) ?_
       intro w6 hbox hu
       replace P_l := Aside0.mk (Cs.updT (by exact P_l.out.updN lu) (by exact bl B_t) (by decide) hu)
       replace P_q := Aside0.mk (Cs.updT (by exact P_q.out.updN lu) (by exact bl B_t) (by decide) hu)
       replace HU := Aside0.mk (((by exact ul HU) : Upd None0 w _).trans hu (fun k hk => .inr (by rw [hk]; exact GE_t.out)))
       clear hu
       clear B_t; have B_t := Aside0.mk hbox; clear hbox
       (try clear hc_t_0 hc_t_1 hc_t_2)
       have hc_t_0 := co B_t 0 (.slice A_q r1.length c_q) rfl; have hc_t_1 := co B_t 1 (.int .i64 r2) rfl; have hc_t_2 := co B_t 2 (.int .i64 r3) rfl)
    | (go_at_call 15
       (with_reducible refine (gantletref09_Same.calls 100000 A_l c_l r1 A_q c_q r1 true _ (Cs.now (by exact P_l.out.updN lu)) L_l.out (Cs.now (by exact P_q.out.updN lu)) L_q.out HS.out).mono ?_)
       rintro e w7 ⟨rfl, hb⟩
       have hu := (Upd.of_below hb.below : Upd None0 _ _)
       replace B_t := Aside0.mk (hu.blk (by exact bl B_t) (fun h => h))
       replace P_l := Aside0.mk (Cs.updN (by exact P_l.out.updN lu) hu)
       replace P_q := Aside0.mk (Cs.updN (by exact P_q.out.updN lu) hu)
       replace HU := Aside0.mk (((by exact ul HU) : Upd None0 w _).trans hu (fun _ h => h.elim))
       clear hu
       (try clear hc_t_0 hc_t_1 hc_t_2)
       have hc_t_0 := co B_t 0 (.slice A_q r1.length c_q) rfl; have hc_t_1 := co B_t 1 (.int .i64 r2) rfl; have hc_t_2 := co B_t 2 (.int .i64 r3) rfl))
  repeat (go_quiet (fail); try go_wp2)
  go_ret
  exact ⟨by simp, HU.out.below0⟩
def gantletlaw09_EventWhole.f (a0 : ByteArray) (a1 : Int) : Option Bool := some true
theorem gantletlaw09_EventWhole.calls (a0 : ByteArray) (a1 : Int) (r : Bool) (w : World) (h : gantletlaw09_EventWhole.f a0 a1 = some r) :
    Calls Try.prog 3 #[.string a0, .int .i64 a1] w fun e w' => e = .returned (.bool r) ∧ Below w.heap.size w w' := by
  unfold gantletlaw09_EventWhole.f at h
  obtain rfl := Option.some.inj h
  exact gantletlaw09_EventWhole.any a0 a1 w
end Go.Proofs.Ytomaajagncjiiaa.PC
