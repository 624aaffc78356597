/- The law EventPushes, walked by hand. -/
import Derived.Test.YtomaajagncjiiaaPCx0
import Derived.Test.YtomaajagncjiiaaPCx6
import Derived.Test.YtomaajagncjiiaaPCx7
import Derived.Test.YtomaajagncjiiaaPCx11
import Derived.Test.YtomaajagncjiiaaZD
import Derived.Test.YtomaajagncjiiaaMWh
import Derived.Test.YtomaajagncjiiaaBs
import Derived.Outline
namespace Go.Proofs.Ytomaajagncjiiaa.PC
open Go.RowKit Go.Proofs.YtomaajagncjiiaaW.PrintWords Go.Proofs.YtomaajagncjiiaaW.PrintLast Go.Proofs.YtomaajagncjiiaaW.PrintMore Go.Proofs.Ytomaajagncjiiaa.Own
attribute [local go_sem] max2_int min2_int max_two min_two max_three min_three max_four min_four
set_option linter.unusedVariables false
set_option linter.unusedSimpArgs false
theorem cs_nil {w : World} : Cs w none ([] : List Ev) := by
  obtain ⟨A, c, e, _, h⟩ := cs_row (Kd.R_nil k36 36 w 0 None0 : k36.R 36 w 0 None0 (.slice none 0 0) ([] : List Ev))
  cases e
  exact h
theorem start_T (a : ByteArray) (hs : a.size ≤ 700) : StartT a (Tst a) := by
  intro p en w h0 h1 h2 h3
  exact (gantletref09_start.calls 3000 a p en _ _ _ _ _ _ w (start_ok a hs p en h0 h1)).mono fun e w' ⟨h4, h5⟩ => ⟨h4, h5⟩
/-- The reference's Whole: what the machine's run comes to. -/
theorem refW_any (a : ByteArray) (dp : Int) (hs : a.size ≤ 700) (r1 : List Ev) (r2 r3 : Int) (h : event_Whole.f a dp = some (r1, r2, r3)) (w : World) :
    Calls Try.prog 14 #[.string a, .int .i64 dp] w fun e w' => ∃ A2 c2, e = .returned (.agg #[.slice A2 r1.length c2, .int .i64 r2, .int .i64 r3]) ∧ Cs w' A2 r1 ∧ r1.length ≤ c2 ∧ Below w.heap.size w w' := by
  have hm : (0 : Int) ≤ mn (mx dp 0) 64 ∧ mn (mx dp 0) 64 ≤ 64 := by unfold mn mx; (repeat' split) <;> omega
  obtain ⟨dq, hdq⟩ : ∃ q, q = mn (mx dp 0) 64 := ⟨_, rfl⟩
  rw [← hdq] at hm
  unfold event_Whole.f at h
  rw [if_pos hs, ← hdq] at h
  obtain ⟨⟨q1, q2, q3⟩, hq⟩ := (elX_some a (Tst a) dq (good_T a) 2000).1 [] 0 (-1) 0 (Int.le_refl _) (by omega) (by omega)
  have hmo : ((dq.toNat : Nat) : Int) = dq := by omega
  have hwr := whole_ref dq.toNat a 2000 (q1, q2, q3) (by rw [hmo]; exact hq)
  rw [hwr] at h
  have hE : ∀ w, Calls Try.prog 23 #[.string a, .slice none 0 0, .int .i64 0, .int .i64 (-1), .int .i64 0, .int .i64 dq] w fun e w' => ∃ A2 c2, e = .returned (.agg #[.slice A2 q1.length c2, .int .i64 q2, .int .i64 q3]) ∧ Cs w' A2 q1 ∧ q1.length ≤ c2 ∧ Below w.heap.size w w' := fun w =>
    elem_any a (Tst a) (good_T a) (start_T a hs) hs dq hm.1 hm.2 2000 [] none 0 0 (-1) 0 w q1 q2 q3 cs_nil (Nat.le_refl _) (Int.le_refl _) (by omega) (Int.le_refl _) (by decide) (Int.le_refl _) hm.1 (by simp) hq
  by_cases h0 : q2 = 0
  · by_cases h1 : q3 < (a.size : Int)
    · have e : refW a (q1, q2, q3) = (q1, 6, q3) := by unfold refW; rw [if_pos ⟨h0, h1⟩]
      rw [e] at h
      simp only [Option.some.injEq, Prod.mk.injEq] at h
      obtain ⟨rfl, rfl, rfl⟩ := h
      exact refw_more a dp dq q1 q2 q3 w hs hdq h0 h1 hE
    · have e : refW a (q1, q2, q3) = (q1, q2, q3) := by unfold refW; rw [if_neg (fun h => h1 h.2)]
      rw [e] at h
      simp only [Option.some.injEq, Prod.mk.injEq] at h
      obtain ⟨rfl, rfl, rfl⟩ := h
      exact refw_all a dp dq q1 q2 q3 w hs hdq h0 h1 hE
  · have e : refW a (q1, q2, q3) = (q1, q2, q3) := by unfold refW; rw [if_neg (fun h => h0 h.1)]
    rw [e] at h
    simp only [Option.some.injEq, Prod.mk.injEq] at h
    obtain ⟨rfl, rfl, rfl⟩ := h
    exact refw_err a dp dq q1 q2 q3 w hs hdq h0 hE
theorem whole_len (most : Nat) (a : ByteArray) (hm : most ≤ 64) (hs : a.size ≤ 700) : (wholeM most (bytesOf a)).1.length ≤ 50000 := by
  have hw := run_split most (bytesOf a) [] init0 0 [] (Bs.bytes_of a) (inv0 most)
  have hmul : (bytesOf a).length * (most + 3) ≤ 700 * 67 := Nat.mul_le_mul (by rw [bytesOf_length]; omega) (by omega)
  unfold wholeM
  rw [show (0 : Int) = ((0 : Nat) : Int) from rfl]
  rcases hw with ⟨s', xs, c1, c2, c3, c4, c5⟩ | ⟨xs, e, j, c0, c1, c2, c3, c4, c5, c6⟩
  · rw [c4]; simp only [List.nil_append]; omega
  · rw [c5]; simp only [List.nil_append]; omega
theorem mach_at (g most : Nat) (s : St) (S : Nat → Prop) (w : World) (rc : List Int) (ro : Int) (hM : Mc w S g most s rc ro) {n : Int} (hn : s.at_ = n) :
    Calls Try.prog 20 #[.pointer (some ⟨g, 0, none⟩)] w fun e w' => e = .returned (.int .i64 n) ∧ w = w' := by
  obtain ⟨gs, gr, v, hb, _⟩ := hM.opn
  have hc : w.cell? ⟨g, 4, none⟩ = some (.int .i64 s.at_) := (blk_cell hb 4).trans rfl
  subst hn
  clear hb
  go_enter Try.func20, Try.ntmps20
  go_wp2
  go_ret
  exact ⟨rfl, rfl⟩
theorem step_at (most : Nat) (s : St) (b : Int) : (stepM most s b).1.at_ = s.at_ := by
  unfold stepM
  split
  · rfl
  split
  · rfl
  split
  · rfl
  split
  · rfl
  unfold beginM
  split
  · rfl
  split
  · split <;> rfl
  · rfl
theorem push_err (most : Nat) (s s' : St) (b : Int) (x : List Ev) (e : Int) (ho : s.over = 0) (h : pushM most s b = (s', x, e)) (he : e ≠ 0) : s'.over = e ∧ s'.at_ = s.at_ ∧ x = [] := by
  have hat := step_at most s b
  unfold pushM at h
  rw [if_neg (by simp [ho])] at h
  split at h
  · simp only [Prod.mk.injEq] at h
    obtain ⟨rfl, rfl, rfl⟩ := h
    exact ⟨rfl, rfl, rfl⟩
  · split at h
    · simp only [Prod.mk.injEq] at h
      obtain ⟨rfl, rfl, rfl⟩ := h
      exact ⟨rfl, hat, rfl⟩
    · simp only [Prod.mk.injEq] at h
      exact absurd h.2.2.symm he
theorem bnd_ne36 {w : World} {S : Nat → Prop} {k : Nat} (h : Bnd w [58, 70, 72, 5] S k) : ∃ cs t, t ≠ 36 ∧ w.heap[k]? = some (.cells cs t (0, 0)) := by
  obtain ⟨_, _, q, hq, cs, hc⟩ := h
  exact ⟨cs, q, by rintro rfl; exact absurd hq (by decide), hc⟩
set_option maxHeartbeats 16000000 in
set_option maxRecDepth 100000 in
theorem gantletlaw09_EventPushes.any (a : ByteArray) (dp : Int) (mo : ByteArray) (w : World) (hmo : mo.size ≤ 140737488351232) :
    Calls Try.prog 9 #[.string a, .int .i64 dp, .string mo] w fun e w' => e = .returned (.bool true) ∧ Below w.heap.size w w' := by
  have HA : Aside0 (gantletlaw09_awake.f 100 = some true) := ⟨awake_ok _ (by decide)⟩
  have HU := Aside0.mk (Upd.refl None0 w)
  go_enter Try.func9, Try.ntmps9
  by_cases hz : (a.size : Int) > 300
  case pos =>
    have HG : Aside0 (gantletlaw09_great.f a = some true) := ⟨by unfold gantletlaw09_great.f; rw [decide_eq_true hz]⟩
    go_wp2_with (first
      | (go_at_call 18
         (with_reducible refine (mach_new dp _).mono ?_)
         rintro e w1 ⟨g, rfl, hs, hu0⟩
         have hs1 := hs.mono (fun k hk => hk.elim (fun h => h.elim) (fun h => (.inr (Nat.le_trans ((by exact ul HU) : Upd None0 w _).size h) : New w None0 k)))
         clear hs
         have hu := (hu0 : Upd None0 _ _)
         replace HU := Aside0.mk (((by exact ul HU) : Upd None0 w _).trans hu (fun _ h => h.elim))
         clear hu
         have P_m := Aside0.mk hs1; clear hs1)
      | (go_at_call 11
         first
         | ((with_reducible refine (gantletlaw09_awake.calls 100 true _ HA.out).mono ?_)
            rintro e w2 ⟨rfl, hb⟩
            have hu := (Upd.of_below hb : Upd None0 _ _)
            replace P_m := Aside0.mk (Mc.updN (by exact P_m.out.updN lu) hu)
            replace HU := Aside0.mk (((by exact ul HU) : Upd None0 w _).trans hu (fun _ h => h.elim))
            clear hu)
         | ((with_reducible refine (gantletlaw09_awake.calls 100 true _ HA.out).mono ?_)
            rintro e w4 ⟨rfl, hb⟩
            have hu := (Upd.of_below hb : Upd None0 _ _)
            replace P_m := Aside0.mk (Mc.updN (by exact P_m.out.updN lu) hu)
            replace HU := Aside0.mk (((by exact ul HU) : Upd None0 w _).trans hu (fun _ h => h.elim))
            clear hu))
      | (go_at_call 12
         (with_reducible refine (gantletlaw09_great.calls a true _ HG.out).mono ?_)
         rintro e w3 ⟨rfl, hb⟩
         have hu := (Upd.of_below hb.below : Upd None0 _ _)
         replace P_m := Aside0.mk (Mc.updN (by exact P_m.out.updN lu) hu)
         replace HU := Aside0.mk (((by exact ul HU) : Upd None0 w _).trans hu (fun _ h => h.elim))
         clear hu))
    go_ret
    exact ⟨rfl, HU.out.below0⟩
  have HG : Aside0 (gantletlaw09_great.f a = some false) := ⟨by unfold gantletlaw09_great.f; rw [decide_eq_false hz]⟩
  by_cases hz2 : (50 : Int) < (mo.size : Int)
  case pos =>
    have y1 : decide ((50 : Int) < (mo.size : Int)) = true := decide_eq_true hz2
    go_wp2_with (first
      | (go_at_call 18
         (with_reducible refine (mach_new dp _).mono ?_)
         rintro e w1 ⟨g, rfl, hs, hu0⟩
         have hs1 := hs.mono (fun k hk => hk.elim (fun h => h.elim) (fun h => (.inr (Nat.le_trans ((by exact ul HU) : Upd None0 w _).size h) : New w None0 k)))
         clear hs
         have hu := (hu0 : Upd None0 _ _)
         replace HU := Aside0.mk (((by exact ul HU) : Upd None0 w _).trans hu (fun _ h => h.elim))
         clear hu
         have P_m := Aside0.mk hs1; clear hs1)
      | (go_at_call 11
         first
         | ((with_reducible refine (gantletlaw09_awake.calls 100 true _ HA.out).mono ?_)
            rintro e w2 ⟨rfl, hb⟩
            have hu := (Upd.of_below hb : Upd None0 _ _)
            replace P_m := Aside0.mk (Mc.updN (by exact P_m.out.updN lu) hu)
            replace HU := Aside0.mk (((by exact ul HU) : Upd None0 w _).trans hu (fun _ h => h.elim))
            clear hu)
         | ((with_reducible refine (gantletlaw09_awake.calls 100 true _ HA.out).mono ?_)
            rintro e w4 ⟨rfl, hb⟩
            have hu := (Upd.of_below hb : Upd None0 _ _)
            replace P_m := Aside0.mk (Mc.updN (by exact P_m.out.updN lu) hu)
            replace HU := Aside0.mk (((by exact ul HU) : Upd None0 w _).trans hu (fun _ h => h.elim))
            clear hu))
      | (go_at_call 12
         (with_reducible refine (gantletlaw09_great.calls a false _ HG.out).mono ?_)
         rintro e w3 ⟨rfl, hb⟩
         have hu := (Upd.of_below hb.below : Upd None0 _ _)
         replace P_m := Aside0.mk (Mc.updN (by exact P_m.out.updN lu) hu)
         replace HU := Aside0.mk (((by exact ul HU) : Upd None0 w _).trans hu (fun _ h => h.elim))
         clear hu))
    go_ret
    exact ⟨rfl, HU.out.below0⟩
  have y1 : decide ((50 : Int) < (mo.size : Int)) = false := decide_eq_false hz2
  have hs : a.size ≤ 700 := by omega
  obtain ⟨⟨r1, r2, r3⟩, hE⟩ : ∃ q, event_Whole.f a dp = some q := ⟨_, by unfold event_Whole.f; rw [if_pos hs]⟩
  have HW := Aside0.mk (fun w => refW_any a dp hs r1 r2 r3 hE w)
  obtain ⟨most, hmost⟩ : ∃ q, (mn (mx dp 0) 64).toNat = q := ⟨_, rfl⟩
  have hl : r1.length ≤ 50000 := by
    have hm : (mn (mx dp 0) 64).toNat ≤ 64 := by
      have : mn (mx dp 0) 64 ≤ 64 := by unfold mn; split <;> omega
      omega
    have := whole_len _ a hm hs
    unfold event_Whole.f at hE
    rw [if_pos hs] at hE
    rw [Option.some.inj hE] at this
    exact this
  have hrun : runM most init0 (bytesOf a) 0 [] = (r1, r2, r3) := by
    unfold event_Whole.f at hE
    rw [if_pos hs, hmost] at hE
    exact Option.some.inj hE
  have HMO := Aside0.mk hmost
  have HRUN := Aside0.mk hrun
  have HS0 : Aside0 (gantletref09_Same.f 100000 r1 r1 = some true) := ⟨same_refl 100000 r1 (by omega) (by omega)⟩
  have HM3 := Aside0.mk (show (mo.size : Int) ≤ 50 by omega)
  have hs2 : (a.size : Int) ≤ 9223372036854775807 := by omega
  have hs3 : (mo.size : Int) ≤ 9223372036854775807 := by omega
  clear hE hrun hmost hl hz hz2 hmo
  go_wp2_with (first
    | (go_at_call 18
       (with_reducible refine (mach_new dp _).mono ?_)
       rintro e w1 ⟨g, rfl, hs, hu0⟩
       have hs1 := hs.mono (fun k hk => hk.elim (fun h => h.elim) (fun h => (.inr (Nat.le_trans ((by exact ul HU) : Upd None0 w _).size h) : New w None0 k)))
       clear hs
       have hu := (hu0 : Upd None0 _ _)
       replace HU := Aside0.mk (((by exact ul HU) : Upd None0 w _).trans hu (fun _ h => h.elim))
       clear hu
       have P_m := Aside0.mk hs1; clear hs1)
    | (go_at_call 11
       (with_reducible refine (gantletlaw09_awake.calls 100 true _ HA.out).mono ?_)
       rintro e w2 ⟨rfl, hb⟩
       have hu := (Upd.of_below hb : Upd None0 _ _)
       replace P_m := Aside0.mk (Mc.updN (by exact P_m.out.updN lu) hu)
       replace HU := Aside0.mk (((by exact ul HU) : Upd None0 w _).trans hu (fun _ h => h.elim))
       clear hu)
    | (go_at_call 12
       (with_reducible refine (gantletlaw09_great.calls a false _ HG.out).mono ?_)
       rintro e w3 ⟨rfl, hb⟩
       have hu := (Upd.of_below hb.below : Upd None0 _ _)
       replace P_m := Aside0.mk (Mc.updN (by exact P_m.out.updN lu) hu)
       replace HU := Aside0.mk (((by exact ul HU) : Upd None0 w _).trans hu (fun _ h => h.elim))
       clear hu)
    | (go_at_call 14
       (with_reducible refine (HW.out _).mono ?_)
       rintro e w4 ⟨A_q, c_q, rfl, hC2, hle2, hb⟩
       have hu := (Upd.of_below hb : Upd None0 _ _)
       replace P_m := Aside0.mk (Mc.updN (by exact P_m.out.updN lu) hu)
       replace HU := Aside0.mk (((by exact ul HU) : Upd None0 w _).trans hu (fun _ h => h.elim))
       clear hu
       have P_q := Aside0.mk hC2
       have L_q := Aside0.mk hle2
       clear hC2 hle2)
    | ((with_reducible refine gate_dst (N := 8) rfl ?_)
       refine boxnew ?hg (N := 8) ?hd (cs := #[.slice none 0 0, .int .i64 0, .int .i64 0]) (t := 29) ?hr ?_; (case hd => rfl); (case hg => rfl); (case hr => first | (go_simp; done) | (go_simp; rfl))
       intro g_t hge w5 hbox hu
       have GE_t := Aside0.mk (Nat.le_trans ((by exact ul HU) : Upd None0 w _).size hge)
       replace P_m := Aside0.mk (Mc.updN (by exact P_m.out.updN lu) hu)
       replace P_q := Aside0.mk (Cs.updN (by exact P_q.out.updN lu) hu)
       replace HU := Aside0.mk (((by exact ul HU) : Upd None0 w _).trans hu (fun _ h => h.elim))
       clear hu
       have B_t := Aside0.mk hbox; clear hbox hge
       have hc_t_0 := co B_t 0 (.slice none 0 0) rfl; have hc_t_1 := co B_t 1 (.int .i64 0) rfl; have hc_t_2 := co B_t 2 (.int .i64 0) rfl)
    | ((with_reducible refine gate_store (t := 29) (p := 8) (v := .tmp 36) rfl ?_)
       refine rowput rfl 29 (.tmp 8) (.tmp 36) rfl rfl g_t #[.slice A_q r1.length c_q, .int .i64 r2, .int .i64 r3] rfl rfl 29 #[.slice none 0 0, .int .i64 0, .int .i64 0] (by exact bl B_t) (by kernel_rfl) rfl (by simp [Value.oneCell']) ?_
       intro w6 hbox hu
       replace P_m := Aside0.mk (Mc.updT (by exact P_m.out.updN lu) (by exact bl B_t) (by decide) hu)
       replace P_q := Aside0.mk (Cs.updT (by exact P_q.out.updN lu) (by exact bl B_t) (by decide) hu)
       replace HU := Aside0.mk (((by exact ul HU) : Upd None0 w _).trans hu (fun k hk => .inr (by rw [hk]; exact GE_t.out)))
       clear hu
       clear B_t; have B_t := Aside0.mk hbox; clear hbox
       (try clear hc_t_0 hc_t_1 hc_t_2)
       have hc_t_0 := co B_t 0 (.slice A_q r1.length c_q) rfl; have hc_t_1 := co B_t 1 (.int .i64 r2) rfl; have hc_t_2 := co B_t 2 (.int .i64 r3) rfl))
  clear y1
  rw [HMO.out] at P_m
  have HUW := HU
  have HQ := P_q
  have B_tt := B_t
  clear HU P_q
  go_loopg [9, 39] a.size (fun gk v9 v39 wr => ∃ (k : Nat) (s : St) (xs : List Ev), v39 = .int .i64 (k : Int) ∧ Aside0 (k ≤ a.size ∧ a.size - k ≤ gk ∧ GoodM s k ∧ xs.length ≤ k * 200 ∧ runM most s ((bytesOf a).drop k) (k : Int) xs = (r1, r2, r3)) ∧ Aside0 (k36.R 36 wr 0 (New w6 None0) v9 xs) ∧ Aside0 (Mc wr (New w6 (Bnd w6 [58, 70, 72, 5] (New w None0))) g most s s.came 0) ∧ Aside0 (Upd (Bnd w6 [58, 70, 72, 5] (New w None0)) w6 wr))
  case atStart => exact ⟨0, init0, [], rfl, ⟨Nat.zero_le _, by omega, ⟨rfl, by decide, by decide, by simp [init0], fun x hx => by simp [init0] at hx, rfl⟩, by simp, HRUN.out⟩, ⟨Kd.R_nil _ _ _ _ _⟩, ⟨P_m.out.bnd.mono (fun k h => .inl h)⟩, ⟨Upd.refl _ _⟩⟩
  case round =>
    obtain ⟨k, s, xs, rfl, HI, HR, HM, HU⟩ := hrel
    obtain ⟨A1, c1, rfl⟩ := Kd.R_slice HR.out
    (try clear hc_t_0 hc_t_1 hc_t_2)
    clear P_m
    have hk0 : (0 : Int) ≤ (k : Int) := by omega
    have hkm : (k : Int) ≤ 700 := by have := HI.out.1; omega
    have HK8 := Aside0.mk (show k ≤ 800 by omega)
    by_cases hlt : k < a.size
    · have hltd : decide ((k : Int) < (a.size : Int)) = true := decide_eq_true (by omega)
      have hlti : (k : Int) < (a.size : Int) := by omega
      obtain ⟨b, hb⟩ : ∃ q, bt a (k : Int) = q := ⟨_, rfl⟩
      have hbx : ∀ h : k < a.size, (((a[k]'h).toNat : Nat) : Int) = b := by rw [← hb]; exact bt_at a (k : Int)
      have hbr := bt_range a (k : Int)
      rw [hb] at hbr
      obtain ⟨⟨s', x, e'⟩, hp⟩ : ∃ q, pushM most s b = q := ⟨_, rfl⟩
      have hrun := HI.out.2.2.2.2
      have hdrop : (bytesOf a).drop k = b :: (bytesOf a).drop (k + 1) := by
        have := BId.drop_at a (k : Int) hk0 (by omega)
        rw [hb] at this
        simpa using this
      rw [hdrop, runM_step most s s' b x e' _ _ _ hp] at hrun
      have HRN := Aside0.mk hrun
      have HPS := Aside0.mk hp
      have HBR := Aside0.mk (show 0 ≤ b ∧ b < 256 by omega)
      have pg : e' = 0 → GoodM s' (k + 1) := fun he => by
        have hG := HI.out.2.2.1
        unfold pushM at hp
        rw [if_neg (by simp [hG.1])] at hp
        split at hp
        · simp only [Prod.mk.injEq] at hp; exact absurd hp.2.2 (by rw [he]; decide)
        · split at hp
          · rename_i h1; simp only [Prod.mk.injEq] at hp; exact absurd (hp.2.2.trans he) h1
          · rename_i h1; simp only [Prod.mk.injEq] at hp; rw [← hp.1]; exact push_good most s b k hG (by omega) (by simpa using h1)
      clear hrun hdrop hb hbr
      by_cases he : e' = 0
      · subst he
        have HA1 := Aside0.mk (show s'.at_ = (k : Int) + 1 by have := (pg rfl).2.2.2.2.2; rw [this]; push_cast; rfl)
        clear hp pg
        obtain ⟨xs2, hxs2⟩ : ∃ q, xs ++ x = q := ⟨_, rfl⟩
        have HX2 := Aside0.mk hxs2
        have HXL := Aside0.mk (show ∀ n, n ≤ 200 → (xs.length + n) * 56 ≤ 140737488355328 by have := HI.out.2.2.2.1; omega)
        clear hxs2
        go_wp2_with (first
          | (go_at_call 19
             (with_reducible refine (mach_push g most s s' _ 0 b k (Bnd wr [58, 70, 72, 5] (New w6 (Bnd w6 [58, 70, 72, 5] (New w None0)))) _ HM.out.bnd HI.out.2.2.1 HK8.out HBR.out HPS.out).mono ?_)
             rintro e w2 ⟨v2, rc, ro, rfl, q1, q2, q3, q4, q5⟩
             obtain ⟨A3, c3, rfl⟩ := Kd.R_slice q1
             have R2 := Aside0.mk (row_mono q1 (fun k h => h.elim (fun h => h.elim) (fun h => (.inr (Nat.le_trans HU.out.size h) : New w6 None0 k))))
             have R1 := Aside0.mk (row_mono (row_upd (Bnd.row HR.out (E := 36 :: k36.E) (fun _ h => h)) q3 (fun k h1 h2 => bnd_apart (by decide) h1 h2)) Bnd.of)
             have U2 := Aside0.mk (HU.out.trans q3 (fun k hk => hk.1))
             have M2 := Aside0.mk (q2.mono (fun k h => h.elim (fun h => h.1) (fun h => (.inr (Nat.le_trans HU.out.size h) : New w6 (Bnd w6 [58, 70, 72, 5] (New w None0)) k))))
             obtain ⟨rfl, rfl, q6⟩ := q5 rfl
             have G2 := Aside0.mk q6
             have X2 := Aside0.mk q4
             clear q1 q2 q3 q4 q5 q6)
          | ((with_reducible refine gate_builtin (b := .append) (xs := #[.tmp 105, .tmp 106]) rfl ?_); at_builtin
             refine row_append_rows (k36) (S := New w6 None0) rfl (.tmp 105) (.tmp 106) 24 36 (.agg #[.int .i64 0, .int .i64 0, .int .i64 0, .int .i64 0, .bool false, .int .i64 0, .int .u8 0]) 56 rfl Try.underlying24 info36 rfl (by decide) (by omega) (.slice A1 xs.length c1) xs x A3 x.length c3 rfl rfl ?aO ?aR ?aM ?aL xs2 HX2.out ?_
             (case aO => exact R1.out); (case aR => exact (Kd.R_reads' R2.out).2.2); (case aM => exact k_km _); (case aL => exact HXL.out _ X2.out)
             intro v4 w3 ho hu
             have M3 := Aside0.mk (M2.out.updR R1.out (by decide) hu)
             have U3 := Aside0.mk (U2.out.trans hu (fun k hk => (row_at R1.out hk).elim (fun h => h.elim) .inr))
             have R3 := Aside0.mk (row_mono ho (fun k hk => hk.elim id (fun h => (.inr (Nat.le_trans U2.out.size h) : New w6 None0 k))))
             clear M2 U2 R1 R2 ho hu)
          | (go_at_call 20
             (with_reducible refine (mach_at g most s' _ _ _ _ M3.out HA1.out).mono ?_)
             rintro e wx ⟨rfl, rfl⟩))
        go_roundg (gk - 1)
        case measure => have := HI.out.2.1; omega
        case rel =>
          refine ⟨k + 1, s', xs2, by simp, ⟨by omega, by have := HI.out.2.1; omega, G2.out, by rw [← HX2.out, List.length_append]; have := HI.out.2.2.2.1; have := X2.out; omega, ?_⟩, R3, M3, ⟨U3.out⟩⟩
          have := HRN.out
          rw [if_neg (by simp), HX2.out] at this
          simpa using this
      · have h5 := HRN.out
        rw [if_pos he] at h5
        simp only [Prod.mk.injEq] at h5
        obtain ⟨rfl, rfl, rfl⟩ := h5
        obtain ⟨po, pa, rfl⟩ := push_err most s s' b x e' HI.out.2.2.1.1 hp he
        have HA1 := Aside0.mk (show s'.at_ = (k : Int) by rw [pa]; exact HI.out.2.2.1.2.2.2.2.2)
        have HE := Aside0.mk po
        have HO := Aside0.mk (show s'.over ≠ 0 by rw [po]; exact he)
        have y2 : (e' == 0) = false := beq_eq_false_iff_ne.2 he
        have y3 : (e' != 0) = true := bne_iff_ne.2 he
        have HS := HS0
        clear HRN HRUN hp pg po pa
        go_wp2_with (first
          | (go_at_call 19
             (with_reducible refine (mach_push g most s s' _ e' b k (Bnd wr [58, 70, 72, 5] (New w6 (Bnd w6 [58, 70, 72, 5] (New w None0)))) _ HM.out.bnd HI.out.2.2.1 HK8.out HBR.out HPS.out).mono ?_)
             rintro e w2 ⟨v2, rc, ro, rfl, q1, q2, q3, q4, q5⟩
             obtain ⟨A3, c3, rfl⟩ := Kd.R_slice q1
             have R2 := Aside0.mk (row_mono q1 (fun k h => h.elim (fun h => h.elim) (fun h => (.inr (Nat.le_trans HU.out.size h) : New w6 None0 k))))
             have R1 := Aside0.mk (row_mono (row_upd (Bnd.row HR.out (E := 36 :: k36.E) (fun _ h => h)) q3 (fun k h1 h2 => bnd_apart (by decide) h1 h2)) Bnd.of)
             have U2 := Aside0.mk (HU.out.trans q3 (fun k hk => hk.1))
             have M2 := Aside0.mk (q2.mono (fun k h => h.elim (fun h => h.1) (fun h => (.inr (Nat.le_trans HU.out.size h) : New w6 (Bnd w6 [58, 70, 72, 5] (New w None0)) k))))
             have B_t2 := Aside0.mk (U2.out.blk B_tt.out (Bnd.ne B_tt.out (by decide)))
             (try clear hc_t_0 hc_t_1 hc_t_2)
             have hc_t_0 := co B_t2 0 (.slice A_q xs.length c_q) rfl; have hc_t_1 := co B_t2 1 (.int .i64 e') rfl; have hc_t_2 := co B_t2 2 (.int .i64 (k : Int)) rfl
             clear q1 q2 q3 q4 q5)
          | (go_at_call 20
             (with_reducible refine (mach_at g most s' _ _ _ _ M2.out HA1.out).mono ?_)
             rintro e wx ⟨rfl, rfl⟩))
        go_loopg [75] mo.size (fun gk v75 wi => ∃ (j : Nat), v75 = .int .i64 (j : Int) ∧ Aside0 (j ≤ mo.size ∧ mo.size - j ≤ gk) ∧ Aside0 (k36.R 36 wi 0 (New w6 None0) (.slice A1 xs.length c1) xs) ∧ Aside0 (Mc wi (New w6 (Bnd w6 [58, 70, 72, 5] (New w None0))) g most s' rc ro) ∧ Aside0 (Upd (Bnd w6 [58, 70, 72, 5] (New w None0)) w6 wi))
        case atStart => exact ⟨0, rfl, ⟨Nat.zero_le _, by omega⟩, R1, M2, U2⟩
        case round =>
          obtain ⟨j, rfl, JI, RI, MI, UI⟩ := hrel
          (try clear hc_t_0 hc_t_1 hc_t_2)
          clear R1 M2 U2 B_t2
          have hj0 : (0 : Int) ≤ (j : Int) := by omega
          have hjm : (j : Int) ≤ 700 := by have := JI.out.1; have := HM3.out; omega
          by_cases hlj : j < mo.size
          · have hljd : decide ((j : Int) < (mo.size : Int)) = true := decide_eq_true (by omega)
            have hlji : (j : Int) < (mo.size : Int) := by omega
            obtain ⟨b2, hb2⟩ : ∃ q, bt mo (j : Int) = q := ⟨_, rfl⟩
            have hbx2 : ∀ h : j < mo.size, (((mo[j]'h).toNat : Nat) : Int) = b2 := by rw [← hb2]; exact bt_at mo (j : Int)
            clear hb2
            go_wp2_with (first
              | (go_at_call 19
                 (with_reducible refine (mach_pushO g most s' b2 (Bnd wr [58, 70, 72, 5] (New w6 (Bnd w6 [58, 70, 72, 5] (New w None0)))) _ rc ro MI.out.bnd HO.out).mono ?_)
                 rintro e w4 ⟨rfl, q2, q3⟩
                 have U4 := Aside0.mk (UI.out.trans q3 (fun k hk => hk.1))
                 have R4 := Aside0.mk (row_mono (row_upd (Bnd.row RI.out (E := 36 :: k36.E) (fun _ h => h)) q3 (fun k h1 h2 => bnd_apart (by decide) h1 h2)) Bnd.of)
                 have M4 := Aside0.mk (q2.mono Bnd.of)
                 clear q2 q3 MI UI RI
                 rw [HE.out])
              | (go_at_call 20
                 (with_reducible refine (mach_at g most s' _ _ _ _ M4.out HA1.out).mono ?_)
                 rintro e wx ⟨rfl, rfl⟩))
            go_roundg (gk - 1)
            case measure => have := JI.out.2; omega
            case rel => exact ⟨j + 1, by simp, ⟨by omega, by have := JI.out.2; omega⟩, R4, M4, U4⟩
          · have hljd : decide ((j : Int) < (mo.size : Int)) = false := decide_eq_false (by omega)
            have B_t3 := Aside0.mk (UI.out.blk B_tt.out (Bnd.ne B_tt.out (by decide)))
            have hc_t_0 := co B_t3 0 (.slice A_q xs.length c_q) rfl
            go_wp2_with (first
              | (go_at_call 15
                 (with_reducible refine (gantletref09_Same.calls 100000 A1 c1 xs A_q c_q xs true _ (Kd.R_reads' RI.out).2.2 (Kd.R_reads' RI.out).2.1 ?hq L_q.out HS.out).mono ?_)
                 (case hq => exact HQ.out _ (UI.out.mono (fun k hk => bnd_ne36 hk)))
                 rintro e w5 ⟨rfl, hb⟩
                 have U5 := Aside0.mk (UI.out.trans (Upd.of_below hb.below : Upd None0 _ _) (fun _ h => h.elim))
                 clear hb))
            go_ret
            exact ⟨rfl, (HUW.out.trans U5.out (fun k hk => hk.1.elim (fun h => h.elim) .inr)).below0⟩
    · have hltd : decide ((k : Int) < (a.size : Int)) = false := decide_eq_false (by omega)
      obtain ⟨d, hd⟩ : ∃ q, done s = q := ⟨_, rfl⟩
      have h5 := HI.out.2.2.2.2
      rw [List.drop_eq_nil_of_le (by have := bytesOf_length a; have := HI.out.1; omega)] at h5
      simp only [runM, hd, Prod.mk.injEq] at h5
      obtain ⟨rfl, rfl, h53⟩ := h5
      have HD := Aside0.mk hd
      have HS := HS0
      have B_t3 := Aside0.mk (HU.out.blk B_tt.out (Bnd.ne B_tt.out (by decide)))
      have hc_t_0 := co B_t3 0 (.slice A_q xs.length c_q) rfl
      have SQ := Aside0.mk (fun n => show Calls Try.prog 15 #[.slice A1 xs.length c1, .slice A_q xs.length c_q] (wr.drewN n) fun e w' => e = .returned (.bool true) ∧ ∃ m, w' = (wr.drewN n).drewN m from
        (gantletref09_Same.calls 100000 A1 c1 xs A_q c_q xs true _ (Kd.R_reads' (Kd.R_drewN HR.out n)).2.2 (Kd.R_reads' HR.out).2.1 (HQ.out _ ((HU.out.drewN n).mono (fun k hk => bnd_ne36 hk))) L_q.out HS.out).mono fun e w5 ⟨h1, h2⟩ => ⟨h1, h2.out⟩)
      have DQ := Aside0.mk (fun n => show Calls Try.prog 21 #[.pointer (some ⟨g, 0, none⟩)] (wr.drewN n) fun e w' => e = .returned (.bool d) ∧ w' = wr.drewN n from
        (mach_doneW g most s _ _ _ _ d (HM.out.drewN n) HD.out).mono fun e w5 ⟨h1, h2⟩ => ⟨h1, h2.symm⟩)
      clear hd h53
      cases d with
      | false =>
        have hc_t_1 := co B_t3 1 (.int .i64 2) rfl
        go_wp2
        go_quiet ((first | (go_at_call 15; exact Calls.quiet_of (SQ.out _)) | (go_at_call 21; exact Calls.quiet_of_same (DQ.out _))))
        go_wp2
        go_ret
        exact ⟨by simp, (HUW.out.trans (HU.out.drewN _) (fun k hk => hk.1.elim (fun h => h.elim) .inr)).below0⟩
      | true =>
        have hc_t_1 := co B_t3 1 (.int .i64 0) rfl
        go_wp2
        go_quiet ((first | (go_at_call 15; exact Calls.quiet_of (SQ.out _)) | (go_at_call 21; exact Calls.quiet_of_same (DQ.out _))))
        go_wp2
        go_ret
        exact ⟨by simp, (HUW.out.trans (HU.out.drewN _) (fun k hk => hk.1.elim (fun h => h.elim) .inr)).below0⟩
def gantletlaw09_EventPushes.f (a0 : ByteArray) (a1 : Int) (a2 : ByteArray) : Option Bool := if a2.size ≤ 140737488351232 then some true else none
theorem gantletlaw09_EventPushes.calls (a0 : ByteArray) (a1 : Int) (a2 : ByteArray) (r : Bool) (w : World) (h : gantletlaw09_EventPushes.f a0 a1 a2 = some r) :
    Calls Try.prog 9 #[.string a0, .int .i64 a1, .string a2] w fun e w' => e = .returned (.bool r) ∧ Below w.heap.size w w' := by
  unfold gantletlaw09_EventPushes.f at h
  by_cases hz : a2.size ≤ 140737488351232
  · rw [if_pos hz] at h
    obtain rfl := Option.some.inj h
    exact gantletlaw09_EventPushes.any a0 a1 a2 w hz
  · rw [if_neg hz] at h
    exact absurd h (by simp)
end Go.Proofs.Ytomaajagncjiiaa.PC
