/- The law EventCopies, walked by hand. -/
import Derived.Test.YtomaajagncjiiaaZQ
import Derived.Test.YtomaajagncjiiaaMEv
import Derived.Test.YtomaajagncjiiaaPCx7
import Derived.Outline
namespace Go.Proofs.Ytomaajagncjiiaa.PC
open Go.RowKit Go.Proofs.YtomaajagncjiiaaW.PrintWords Go.Proofs.YtomaajagncjiiaaW.PrintLast Go.Proofs.YtomaajagncjiiaaW.PrintMore Go.Proofs.Ytomaajagncjiiaa.Own
attribute [local go_sem] max2_int min2_int max_two min_two max_three min_three max_four min_four
set_option linter.unusedVariables false
set_option linter.unusedSimpArgs false
theorem mach_at (g most : Nat) (s : St) (S : Nat → Prop) (w : World) (rc : List Int) (ro : Int) (hM : Mc w S g most s rc ro) {n : Int} (hn : s.at_ = n) :
    Calls Try.prog 20 #[.pointer (some ⟨g, 0, none⟩)] w fun e w' => e = .returned (.int .i64 n) ∧ w = w' := by
  obtain ⟨gs, gr, v, hb, _⟩ := hM.opn
  have hc : w.cell? ⟨g, 4, none⟩ = some (.int .i64 s.at_) := (blk_cell hb 4).trans rfl
  subst hn
  clear hb
  go_enter Try.func20, Try.ntmps20
  go_wp2
  go_ret
  exact ⟨rfl, rfl⟩
theorem step_at (most : Nat) (s : St) (b : Int) : (stepM most s b).1.at_ = s.at_ := by
  unfold stepM
  split
  · rfl
  split
  · rfl
  split
  · rfl
  split
  · rfl
  unfold beginM
  split
  · rfl
  split
  · split <;> rfl
  · rfl
theorem push_err (most : Nat) (s s' : St) (b : Int) (x : List Ev) (e : Int) (ho : s.over = 0) (h : pushM most s b = (s', x, e)) (he : e ≠ 0) : s'.over = e ∧ s'.at_ = s.at_ ∧ x = [] := by
  have hat := step_at most s b
  unfold pushM at h
  rw [if_neg (by simp [ho])] at h
  split at h
  · simp only [Prod.mk.injEq] at h
    obtain ⟨rfl, rfl, rfl⟩ := h
    exact ⟨rfl, rfl, rfl⟩
  · split at h
    · simp only [Prod.mk.injEq] at h
      obtain ⟨rfl, rfl, rfl⟩ := h
      exact ⟨rfl, hat, rfl⟩
    · simp only [Prod.mk.injEq] at h
      exact absurd h.2.2.symm he
def J (s : St) (rc : List Int) (ro : Int) (k : Nat) : Prop := Idm.Bytes s.came ∧ s.came.length ≤ k ∧ (s.over = 0 → rc = s.came ∧ ro = 0 ∧ GoodM s k ∧ Cut s.came)
theorem step_came (most : Nat) (s : St) (b : Int) (hy : Idm.Bytes s.came) (hb : 0 ≤ b ∧ b < 256) : Idm.Bytes (stepM most s b).1.came ∧ (stepM most s b).1.came.length ≤ s.came.length + 1 ∧ ((stepM most s b).2.2 = 0 → Cut s.came → Cut (stepM most s b).1.came) := by
  have h2 := bytes_snoc hy hb
  have hn : Idm.Bytes ([] : List Int) := fun x hx => by simp at hx
  have hc : Cut [] := fun j hj => by simp at hj
  unfold stepM
  split
  · exact ⟨hy, by simp only [contentM, takeM]; omega, fun _ h => h⟩
  split
  · exact ⟨hy, by simp only [takeM]; omega, fun _ h => h⟩
  split
  · rename_i h3
    refine ⟨h2, by simp, fun _ h j hj => ?_⟩
    simp only [List.length_append, List.length_cons, List.length_nil] at hj
    by_cases e : j < s.came.length
    · simp only
      rw [List.take_append_of_le_length (by omega)]
      exact h j e
    · obtain rfl : j = s.came.length := by omega
      simp only
      rw [List.take_of_length_le (by simp)]
      exact h3
  split
  · rename_i h4
    exact ⟨h2, by simp, fun h => absurd h h4⟩
  unfold beginM
  split
  · exact ⟨h2, by simp, fun h => by simp at h⟩
  split
  · split
    · exact ⟨hn, by simp, fun _ _ => hc⟩
    · exact ⟨hn, by simp, fun _ _ => hc⟩
  · exact ⟨hn, by simp, fun _ _ => hc⟩
theorem push_came (most : Nat) (s s' : St) (b : Int) (x : List Ev) (e : Int) (k : Nat) (hy : Idm.Bytes s.came) (hb : 0 ≤ b ∧ b < 256) (hl : s.came.length ≤ k) (ho : s.over = 0) (h : pushM most s b = (s', x, e)) :
    Idm.Bytes s'.came ∧ s'.came.length ≤ k + 1 ∧ (e = 0 → Cut s.came → Cut s'.came) := by
  obtain ⟨c1, c2, c3⟩ := step_came most s b hy hb
  unfold pushM at h
  rw [if_neg (by simp [ho])] at h
  split at h
  · simp only [Prod.mk.injEq] at h
    obtain ⟨rfl, rfl, rfl⟩ := h
    exact ⟨hy, by simp only; omega, fun h => by simp at h⟩
  · split at h
    · rename_i h1
      simp only [Prod.mk.injEq] at h
      obtain ⟨rfl, rfl, rfl⟩ := h
      exact ⟨c1, by simp only; omega, fun h => absurd h h1⟩
    · rename_i h1
      simp only [Prod.mk.injEq] at h
      obtain ⟨rfl, rfl, rfl⟩ := h
      rw [close_came]
      exact ⟨c1, by omega, fun _ => c3 (by simpa using h1)⟩
/-- A byte comes to a machine, right or not. -/
theorem mach_pushJ (g most : Nat) (s s' : St) (x : List Ev) (e' b : Int) (k : Nat) (S : Nat → Prop) (w : World) (rc : List Int) (ro : Int) (hM : Mc w S g most s rc ro) (hJ : J s rc ro k) (hk : k ≤ 800) (hb : 0 ≤ b ∧ b < 256) (hp : pushM most s b = (s', x, e')) :
    Calls Try.prog 19 #[.pointer (some ⟨g, 0, none⟩), .int .u8 b] w fun e w' => ∃ v rc' ro', e = .returned (.tuple #[v, .int .i64 e']) ∧ k36.R 36 w' 0 (New w None0) v x ∧ Mc w' (New w S) g most s' rc' ro' ∧ Upd S w w' ∧ x.length ≤ 200 ∧ J s' rc' ro' (k + 1) := by
  obtain ⟨j1, j2, j3⟩ := hJ
  by_cases ho : s.over = 0
  · obtain ⟨rfl, rfl, hG, hC⟩ := j3 ho
    obtain ⟨c1, c2, c3⟩ := push_came most s s' b x e' k j1 hb j2 ho hp
    refine (mach_push g most s s' x e' b k S w hM hG hk hb hp).mono fun e w' ⟨v, rc, ro, h1, h2, h3, h4, h5, h6⟩ => ⟨v, rc, ro, h1, h2, h3, h4, h5, c1, c2, fun hz => ?_⟩
    have he : e' = 0 := by
      by_cases he : e' = 0
      · exact he
      · have := (push_err most s s' b x e' ho hp he).1
        omega
    obtain ⟨a1, a2, a3⟩ := h6 he
    exact ⟨a1, a2, a3, c3 he hC⟩
  · have e : pushM most s b = (s, [], s.over) := by unfold pushM; rw [if_pos ho]
    rw [e] at hp
    simp only [Prod.mk.injEq] at hp
    obtain ⟨rfl, rfl, rfl⟩ := hp
    exact (mach_pushO g most s b S w rc ro hM ho).mono fun e w' ⟨h1, h2, h3⟩ => ⟨_, rc, ro, h1, Kd.R_nil _ _ _ _ _, h2.mono (fun k h => .inl h), h3, by simp, j1, by omega, fun h => absurd h ho⟩
theorem mach_copyJ (g most : Nat) (s : St) (k : Nat) (S : Nat → Prop) (w : World) (rc : List Int) (ro : Int) (hM : Mc w S g most s rc ro) (hJ : J s rc ro k) (hk : k ≤ 900) :
    Calls Try.prog 22 #[.pointer (some ⟨g, 0, none⟩)] w fun e w' => ∃ (g2 : Nat) (rc' : List Int) (ro' : Int), e = .returned (.pointer (some ⟨g2, 0, none⟩)) ∧ Mc w' (New w None0) g2 most s rc' ro' ∧ Upd None0 w w' ∧ J s rc' ro' k :=
  (mach_copyN g most s S w rc ro hM hJ.1 (by have := hJ.2.1; omega)).mono fun e w' ⟨g2, h1, h2, h3⟩ => ⟨g2, _, _, h1, h2, h3, hJ.1, hJ.2.1, fun ho => by
    obtain ⟨_, _, hG, hC⟩ := hJ.2.2 ho
    have e := rdN_cut _ hC
    exact ⟨by rw [e], by rw [e], hG, hC⟩⟩
set_option maxHeartbeats 16000000 in
set_option maxRecDepth 100000 in
theorem gantletlaw09_EventCopies.any (a mo : ByteArray) (dp : Int) (w : World) :
    Calls Try.prog 10 #[.string a, .string mo, .int .i64 dp] w fun e w' => e = .returned (.bool true) ∧ Below w.heap.size w w' := by
  have HA : Aside0 (gantletlaw09_awake.f 100 = some true) := ⟨awake_ok _ (by decide)⟩
  have HU := Aside0.mk (Upd.refl None0 w)
  go_enter Try.func10, Try.ntmps10
  by_cases hz : (a.size : Int) > 300
  case pos =>
    have HG : Aside0 (gantletlaw09_great.f a = some true) := ⟨by unfold gantletlaw09_great.f; rw [decide_eq_true hz]⟩
    go_wp2_with (first
      | (go_at_call 18
         (with_reducible refine (mach_new dp _).mono ?_)
         rintro e w1 ⟨g, rfl, hs, hu0⟩
         have hs1 := hs.mono (fun k hk => hk.elim (fun h => h.elim) (fun h => (.inr (Nat.le_trans ((by exact ul HU) : Upd None0 w _).size h) : New w None0 k)))
         clear hs
         have hu := (hu0 : Upd None0 _ _)
         replace HU := Aside0.mk (((by exact ul HU) : Upd None0 w _).trans hu (fun _ h => h.elim))
         clear hu
         have P_m := Aside0.mk hs1; clear hs1)
      | (go_at_call 11
         first
         | ((with_reducible refine (gantletlaw09_awake.calls 100 true _ HA.out).mono ?_)
            rintro e w2 ⟨rfl, hb⟩
            have hu := (Upd.of_below hb : Upd None0 _ _)
            replace P_m := Aside0.mk (Mc.updN (by exact P_m.out.updN lu) hu)
            replace HU := Aside0.mk (((by exact ul HU) : Upd None0 w _).trans hu (fun _ h => h.elim))
            clear hu)
         | ((with_reducible refine (gantletlaw09_awake.calls 100 true _ HA.out).mono ?_)
            rintro e w4 ⟨rfl, hb⟩
            have hu := (Upd.of_below hb : Upd None0 _ _)
            replace P_m := Aside0.mk (Mc.updN (by exact P_m.out.updN lu) hu)
            replace HU := Aside0.mk (((by exact ul HU) : Upd None0 w _).trans hu (fun _ h => h.elim))
            clear hu))
      | (go_at_call 12
         (with_reducible refine (gantletlaw09_great.calls a true _ HG.out).mono ?_)
         rintro e w3 ⟨rfl, hb⟩
         have hu := (Upd.of_below hb.below : Upd None0 _ _)
         replace P_m := Aside0.mk (Mc.updN (by exact P_m.out.updN lu) hu)
         replace HU := Aside0.mk (((by exact ul HU) : Upd None0 w _).trans hu (fun _ h => h.elim))
         clear hu))
    go_ret
    exact ⟨rfl, HU.out.below0⟩
  have HG : Aside0 (gantletlaw09_great.f a = some false) := ⟨by unfold gantletlaw09_great.f; rw [decide_eq_false hz]⟩
  by_cases hz2 : (mo.size : Int) > 300
  case pos =>
    have HG2 : Aside0 (gantletlaw09_great.f mo = some true) := ⟨by unfold gantletlaw09_great.f; rw [decide_eq_true hz2]⟩
    go_wp2_with (first
      | (go_at_call 18
         (with_reducible refine (mach_new dp _).mono ?_)
         rintro e w1 ⟨g, rfl, hs, hu0⟩
         have hs1 := hs.mono (fun k hk => hk.elim (fun h => h.elim) (fun h => (.inr (Nat.le_trans ((by exact ul HU) : Upd None0 w _).size h) : New w None0 k)))
         clear hs
         have hu := (hu0 : Upd None0 _ _)
         replace HU := Aside0.mk (((by exact ul HU) : Upd None0 w _).trans hu (fun _ h => h.elim))
         clear hu
         have P_m := Aside0.mk hs1; clear hs1)
      | (go_at_call 11
         first
         | ((with_reducible refine (gantletlaw09_awake.calls 100 true _ HA.out).mono ?_)
            rintro e w2 ⟨rfl, hb⟩
            have hu := (Upd.of_below hb : Upd None0 _ _)
            replace P_m := Aside0.mk (Mc.updN (by exact P_m.out.updN lu) hu)
            replace HU := Aside0.mk (((by exact ul HU) : Upd None0 w _).trans hu (fun _ h => h.elim))
            clear hu)
         | ((with_reducible refine (gantletlaw09_awake.calls 100 true _ HA.out).mono ?_)
            rintro e w5 ⟨rfl, hb⟩
            have hu := (Upd.of_below hb : Upd None0 _ _)
            replace P_m := Aside0.mk (Mc.updN (by exact P_m.out.updN lu) hu)
            replace HU := Aside0.mk (((by exact ul HU) : Upd None0 w _).trans hu (fun _ h => h.elim))
            clear hu))
      | (go_at_call 12
         first
         | ((with_reducible refine (gantletlaw09_great.calls a false _ HG.out).mono ?_)
            rintro e w3 ⟨rfl, hb⟩
            have hu := (Upd.of_below hb.below : Upd None0 _ _)
            replace P_m := Aside0.mk (Mc.updN (by exact P_m.out.updN lu) hu)
            replace HU := Aside0.mk (((by exact ul HU) : Upd None0 w _).trans hu (fun _ h => h.elim))
            clear hu)
         | ((with_reducible refine (gantletlaw09_great.calls mo true _ HG2.out).mono ?_)
            rintro e w4 ⟨rfl, hb⟩
            have hu := (Upd.of_below hb.below : Upd None0 _ _)
            replace P_m := Aside0.mk (Mc.updN (by exact P_m.out.updN lu) hu)
            replace HU := Aside0.mk (((by exact ul HU) : Upd None0 w _).trans hu (fun _ h => h.elim))
            clear hu)))
    go_ret
    exact ⟨rfl, HU.out.below0⟩
  have HG2 : Aside0 (gantletlaw09_great.f mo = some false) := ⟨by unfold gantletlaw09_great.f; rw [decide_eq_false hz2]⟩
  obtain ⟨most, hmost⟩ : ∃ q, (mn (mx dp 0) 64).toNat = q := ⟨_, rfl⟩
  have HMO := Aside0.mk hmost
  have HA3 := Aside0.mk (show a.size ≤ 300 by omega)
  have HM3 := Aside0.mk (show mo.size ≤ 300 by omega)
  have hs2 : (a.size : Int) ≤ 9223372036854775807 := by omega
  have hs3 : (mo.size : Int) ≤ 9223372036854775807 := by omega
  clear hmost hz hz2
  go_wp2_with (first
    | (go_at_call 18
       (with_reducible refine (mach_new dp _).mono ?_)
       rintro e w1 ⟨g, rfl, hs, hu0⟩
       have hs1 := hs.mono (fun k hk => hk.elim (fun h => h.elim) (fun h => (.inr (Nat.le_trans ((by exact ul HU) : Upd None0 w _).size h) : New w None0 k)))
       clear hs
       have hu := (hu0 : Upd None0 _ _)
       replace HU := Aside0.mk (((by exact ul HU) : Upd None0 w _).trans hu (fun _ h => h.elim))
       clear hu
       have P_m := Aside0.mk hs1; clear hs1)
    | (go_at_call 11
       (with_reducible refine (gantletlaw09_awake.calls 100 true _ HA.out).mono ?_)
       rintro e w2 ⟨rfl, hb⟩
       have hu := (Upd.of_below hb : Upd None0 _ _)
       replace P_m := Aside0.mk (Mc.updN (by exact P_m.out.updN lu) hu)
       replace HU := Aside0.mk (((by exact ul HU) : Upd None0 w _).trans hu (fun _ h => h.elim))
       clear hu)
    | (go_at_call 12
       first
       | ((with_reducible refine (gantletlaw09_great.calls a false _ HG.out).mono ?_)
          rintro e w3 ⟨rfl, hb⟩
          have hu := (Upd.of_below hb.below : Upd None0 _ _)
          replace P_m := Aside0.mk (Mc.updN (by exact P_m.out.updN lu) hu)
          replace HU := Aside0.mk (((by exact ul HU) : Upd None0 w _).trans hu (fun _ h => h.elim))
          clear hu)
       | ((with_reducible refine (gantletlaw09_great.calls mo false _ HG2.out).mono ?_)
          rintro e w4 ⟨rfl, hb⟩
          have hu := (Upd.of_below hb.below : Upd None0 _ _)
          replace P_m := Aside0.mk (Mc.updN (by exact P_m.out.updN lu) hu)
          replace HU := Aside0.mk (((by exact ul HU) : Upd None0 w _).trans hu (fun _ h => h.elim))
          clear hu)))
  rw [HMO.out] at P_m
  go_loopg [36] a.size (fun gk v36 wr => ∃ (k : Nat) (s : St) (rc : List Int) (ro : Int), v36 = .int .i64 (k : Int) ∧ Aside0 (k ≤ a.size ∧ a.size - k ≤ gk ∧ J s rc ro k) ∧ Aside0 (Mc wr (New w None0) g most s rc ro) ∧ Aside0 (Upd None0 w wr))
  case atStart => exact ⟨0, init0, [], 0, rfl, ⟨Nat.zero_le _, by omega, fun x hx => by simp [init0] at hx, by simp [init0], fun _ => ⟨rfl, rfl, ⟨rfl, by decide, by decide, by simp [init0], fun x hx => by simp [init0] at hx, rfl⟩, fun j hj => by simp [init0] at hj⟩⟩, P_m, HU⟩
  case round =>
    clear P_m HU
    obtain ⟨k, s, rc, ro, rfl, HI, HM, HU⟩ := hrel
    have hk0 : (0 : Int) ≤ (k : Int) := by omega
    have hkm : (k : Int) ≤ 700 := by have := HI.out.1; have := HA3.out; omega
    have HK8 := Aside0.mk (show k ≤ 800 by omega)
    have HK9 := Aside0.mk (show k ≤ 900 by omega)
    by_cases hlt : k < a.size
    · have hltd : decide ((k : Int) < (a.size : Int)) = true := decide_eq_true (by omega)
      have hlti : (k : Int) < (a.size : Int) := by omega
      obtain ⟨b, hb⟩ : ∃ q, bt a (k : Int) = q := ⟨_, rfl⟩
      have hbx : ∀ h : k < a.size, (((a[k]'h).toNat : Nat) : Int) = b := by rw [← hb]; exact bt_at a (k : Int)
      have hbr := bt_range a (k : Int)
      rw [hb] at hbr
      obtain ⟨⟨s', x, e'⟩, hp⟩ : ∃ q, pushM most s b = q := ⟨_, rfl⟩
      have HPS := Aside0.mk hp
      have HBR := Aside0.mk (show 0 ≤ b ∧ b < 256 by omega)
      clear hp hb hbr
      go_wp2_with (first
        | (go_at_call 19
           (with_reducible refine (mach_pushJ g most s s' x e' b k (Bnd wr [58, 70, 72, 5] (New w None0)) _ rc ro HM.out.bnd HI.out.2.2 HK8.out HBR.out HPS.out).mono ?_)
           rintro e w2 ⟨v2, rc2, ro2, rfl, _, q2, q3, _, q5⟩
           have M2 := Aside0.mk (q2.mono (fun k h => h.elim (fun h => h.1) (fun h => (.inr (Nat.le_trans HU.out.size h) : New w None0 k))))
           have U2 := Aside0.mk (HU.out.trans q3 (fun k hk => .inr (hk.1.elim (fun h => h.elim) id)))
           have J2 := Aside0.mk q5
           clear q2 q3 q5))
      go_roundg (gk - 1)
      case measure => have := HI.out.2.1; omega
      case rel => exact ⟨k + 1, s', rc2, ro2, by simp, ⟨by omega, by have := HI.out.2.1; omega, J2.out⟩, M2, U2⟩
    have hltd : decide ((k : Int) < (a.size : Int)) = false := decide_eq_false (by omega)
    have HUw := Aside0.mk HU.out.size
    go_wp2_with (first
      | (go_at_call 22
         first
         | ((with_reducible refine (mach_copyJ g most s k _ _ rc ro HM.out HI.out.2.2 HK9.out).mono ?_)
            rintro e wb ⟨gc, rcc, roc, rfl, q2, q3, q4⟩
            have HMb := Aside0.mk (HM.out.bnd.updN q3)
            have HC := Aside0.mk q2.bnd
            have JC := Aside0.mk q4
            have HUb := Aside0.mk (HU.out.trans q3 (fun _ h => h.elim))
            have SZb := Aside0.mk q3.size
            clear q2 q3 q4 HM HU)
         | ((with_reducible refine (mach_copyJ g most s k _ _ rc ro HMb.out HI.out.2.2 HK9.out).mono ?_)
            rintro e wd ⟨gd, rcd, rod, rfl, q2, q3, q4⟩
            have HMd := Aside0.mk (HMb.out.updN q3)
            have HCd := Aside0.mk (HC.out.updN q3)
            have HD := Aside0.mk q2
            have JD := Aside0.mk q4
            have HUd := Aside0.mk (HUb.out.trans q3 (fun _ h => h.elim))
            have SZd := Aside0.mk q3.size
            clear q2 q3 q4 HMb HC HUb))
      | (go_at_call 20
         first
         | ((with_reducible refine (mach_at gc most s _ _ _ _ HCd.out rfl).mono ?_)
            rintro e wx ⟨rfl, rfl⟩)
         | ((with_reducible refine (mach_at g most s _ _ _ _ HMd.out rfl).mono ?_)
            rintro e wx ⟨rfl, rfl⟩))
      | (go_at_call 21
         first
         | ((with_reducible refine (mach_doneW gc most s _ _ _ _ _ HCd.out rfl).mono ?_)
            rintro e wx ⟨rfl, rfl⟩)
         | ((with_reducible refine (mach_doneW g most s _ _ _ _ _ HMd.out rfl).mono ?_)
            rintro e wx ⟨rfl, rfl⟩)))
    obtain ⟨Sm, hSm⟩ : ∃ S, Bnd wr [58, 70, 72, 5] (New w None0) = S := ⟨_, rfl⟩
    obtain ⟨Sc, hSc⟩ : ∃ S, Bnd wb [58, 70, 72, 5] (New wr None0) = S := ⟨_, rfl⟩
    have HSm := Aside0.mk (show ∀ k, Sm k → w.heap.size ≤ k ∧ k < wr.heap.size by
      intro k h; rw [← hSm] at h; exact ⟨h.1.elim (fun h => h.elim) id, h.2.1⟩)
    have HSc := Aside0.mk (show ∀ k, Sc k → wr.heap.size ≤ k ∧ k < wb.heap.size by
      intro k h; rw [← hSc] at h; exact ⟨h.1.elim (fun h => h.elim) id, h.2.1⟩)
    rw [hSm] at HMd
    rw [hSc] at HCd
    have HWR := Aside0.mk (show w.heap.size ≤ wb.heap.size ∧ w.heap.size ≤ wr.heap.size ∧ wr.heap.size ≤ wb.heap.size ∧ wb.heap.size ≤ wd.heap.size by
      obtain ⟨h1, h2⟩ := And.intro SZb.out SZd.out
      have := HUw.out
      omega)
    clear hSm hSc SZb SZd
    go_loopg [71] mo.size (fun gk v71 wr => ∃ (j kt : Nat) (t : St) (rcm : List Int) (rom : Int), v71 = .int .i64 (j : Int) ∧ Aside0 (j ≤ mo.size ∧ mo.size - j ≤ gk ∧ kt = k + j ∧ J t rcm rom kt) ∧ Aside0 (Mc wr (New wd Sm) g most t rcm rom) ∧ Aside0 (Upd Sm wd wr))
    case atStart => exact ⟨0, k, s, rc, ro, rfl, ⟨Nat.zero_le _, by omega, rfl, HI.out.2.2⟩, ⟨HMd.out.mono (fun k h => .inl h)⟩, ⟨Upd.refl _ _⟩⟩
    case round =>
      clear HMd
      obtain ⟨j, kt, t, rcm, rom, rfl, JI, MM, UM⟩ := hrel
      have hj0 : (0 : Int) ≤ (j : Int) := by omega
      have hjm : (j : Int) ≤ 300 := by have := JI.out.1; have := HM3.out; omega
      by_cases hlj : j < mo.size
      · have hljd : decide ((j : Int) < (mo.size : Int)) = true := decide_eq_true (by omega)
        have HK8 := Aside0.mk (show kt ≤ 800 by have := JI.out.2.2.1; have := HI.out.1; have := HA3.out; omega)
        obtain ⟨ix, hix⟩ : ∃ q : Nat, mo.size - 1 - j = q := ⟨_, rfl⟩
        have hx1 : (mo.size : Int) - 1 - (j : Int) = (ix : Int) := by omega
        have hx2 : (ix : Int) < (mo.size : Int) := by omega
        have hx3 : (0 : Int) ≤ (ix : Int) := by omega
        obtain ⟨b, hb⟩ : ∃ q, bt mo (ix : Int) = q := ⟨_, rfl⟩
        have hbx : ∀ h : ix < mo.size, (((mo[ix]'h).toNat : Nat) : Int) = b := by rw [← hb]; exact bt_at mo (ix : Int)
        have hbr := bt_range mo (ix : Int)
        rw [hb] at hbr
        obtain ⟨⟨s', x, e'⟩, hp⟩ : ∃ q, pushM most t b = q := ⟨_, rfl⟩
        have HPS := Aside0.mk hp
        have HBR := Aside0.mk (show 0 ≤ b ∧ b < 256 by omega)
        clear hp hb hbr
        clear hix
        go_wp2_with (first
          | (go_at_call 19
             (with_reducible refine (mach_pushJ g most t s' x e' b kt (Bnd wr [58, 70, 72, 5] (New wd Sm)) _ rcm rom MM.out.bnd JI.out.2.2.2 HK8.out HBR.out HPS.out).mono ?_)
             rintro e w2 ⟨v2, rc2, ro2, rfl, _, q2, q3, _, q5⟩
             have M2 := Aside0.mk (q2.mono (fun k h => h.elim (fun h => h.1) (fun h => (.inr (Nat.le_trans UM.out.size h) : New wd Sm k))))
             have U2 := Aside0.mk (UM.out.trans q3 (fun k hk => hk.1))
             have J2 := Aside0.mk q5
             clear q2 q3 q5))
        go_roundg (gk - 1)
        case measure => have := JI.out.2.1; omega
        case rel => exact ⟨j + 1, kt + 1, s', rc2, ro2, by simp, ⟨by omega, by have := JI.out.2.1; omega, by have := JI.out.2.2.1; omega, J2.out⟩, M2, U2⟩
      have hljd : decide ((j : Int) < (mo.size : Int)) = false := decide_eq_false (by omega)
      have HCe := Aside0.mk (HCd.out.upd UM.out (fun k h1 h2 => by have := (HSc.out k h1).1; have := (HSm.out k h2).2; omega))
      have HDe := Aside0.mk (HD.out.upd UM.out (fun k h1 h2 => by have := (HSm.out k h2).2; have := HWR.out; exact h1.elim (fun h => h.elim) (fun h => by omega)))
      have HSS0 := Aside0.mk (show (∀ k, Sc k → w.heap.size ≤ k) ∧ (∀ k, New wb None0 k → w.heap.size ≤ k) ∧ (∀ k, Sc k → ¬ New wb None0 k) from
        ⟨fun k h => by have := (HSc.out k h).1; have := HWR.out; omega, fun k h => h.elim (fun h => h.elim) (fun h => by have := HWR.out; omega), fun k h h2 => h2.elim (fun h => h.elim) (fun h2 => by have := (HSc.out k h).2; omega)⟩)
      have HUe := Aside0.mk (HUd.out.trans UM.out (fun k h => .inr (HSm.out k h).1))
      clear HCd HD HUd UM MM HSc HSm HWR
      go_wp2
      go_loopg [86] mo.size (fun gk v86 wr => ∃ (j kt : Nat) (t : St) (rcc : List Int) (rco : Int) (rcd : List Int) (rdo : Int) (Sc Sd : Nat → Prop), v86 = .int .i64 (j : Int) ∧ Aside0 (j ≤ mo.size ∧ mo.size - j ≤ gk ∧ kt = k + j ∧ J t rcc rco kt ∧ J t rcd rdo kt) ∧ Aside0 (Mc wr Sc gc most t rcc rco) ∧ Aside0 (Mc wr Sd gd most t rcd rdo) ∧ Aside0 ((∀ k, Sc k → w.heap.size ≤ k) ∧ (∀ k, Sd k → w.heap.size ≤ k) ∧ (∀ k, Sc k → ¬ Sd k)) ∧ Aside0 (Upd None0 w wr))
      case atStart => exact ⟨0, k, s, rcc, roc, rcd, rod, Sc, _, rfl, ⟨Nat.zero_le _, by omega, rfl, JC.out, JD.out⟩, HCe, HDe, HSS0, HUe⟩
      case round =>
        clear HCe HDe HSS0 HUe JC JD JI hlj hljd hj0 hjm
        obtain ⟨j, kt, t, rcc, rco, rcd, rdo, Sc, Sd, rfl, JI, MC, MD, HSS, UU⟩ := hrel
        have hj0 : (0 : Int) ≤ (j : Int) := by omega
        have hjm : (j : Int) ≤ 300 := by have := JI.out.1; have := HM3.out; omega
        by_cases hlj : j < mo.size
        · have hljd : decide ((j : Int) < (mo.size : Int)) = true := decide_eq_true (by omega)
          have hlji : (j : Int) < (mo.size : Int) := by omega
          have HK8 := Aside0.mk (show kt ≤ 800 by have := JI.out.2.2.1; have := HI.out.1; have := HA3.out; omega)
          obtain ⟨b, hb⟩ : ∃ q, bt mo (j : Int) = q := ⟨_, rfl⟩
          have hbx : ∀ h : j < mo.size, (((mo[j]'h).toNat : Nat) : Int) = b := by rw [← hb]; exact bt_at mo (j : Int)
          have hbr := bt_range mo (j : Int)
          rw [hb] at hbr
          obtain ⟨⟨s', x, e'⟩, hp⟩ : ∃ q, pushM most t b = q := ⟨_, rfl⟩
          have HPS := Aside0.mk hp
          have HBR := Aside0.mk (show 0 ≤ b ∧ b < 256 by omega)
          clear hp hb hbr
          go_wp2_with (first
            | (go_at_call 19
               first
               | ((with_reducible refine (mach_pushJ gc most t s' x e' b kt (Bnd wr [58, 70, 72, 5] Sc) _ rcc rco MC.out.bnd JI.out.2.2.2.1 HK8.out HBR.out HPS.out).mono ?_)
                  rintro e w1 ⟨vc, rcc2, rco2, rfl, q1, q2, q3, q4, q5⟩
                  obtain ⟨Ac, cc, rfl⟩ := Kd.R_slice q1
                  have RX := Aside0.mk q1
                  have LX := Aside0.mk q4
                  have JC2 := Aside0.mk q5
                  have MC1 := Aside0.mk q2.bnd
                  have MD1 := Aside0.mk (MD.out.bnd.upd q3 (fun k h1 h2 => HSS.out.2.2 k h2.1 h1.1))
                  have U1 := Aside0.mk (UU.out.trans q3 (fun k hk => .inr (HSS.out.1 k hk.1)))
                  have SZ1 := Aside0.mk q3.size
                  clear q1 q2 q3 q4 q5 MC)
               | ((with_reducible refine (mach_pushJ gd most t s' x e' b kt (Bnd w1 [58, 70, 72, 5] (Bnd wr [58, 70, 72, 5] Sd)) _ rcd rdo MD1.out.bnd JI.out.2.2.2.2 HK8.out HBR.out HPS.out).mono ?_)
                  rintro e w2 ⟨vd, rcd2, rdo2, rfl, q1, q2, q3, q4, q5⟩
                  obtain ⟨Ad, cd, rfl⟩ := Kd.R_slice q1
                  have RY := Aside0.mk q1
                  have RX2 := Aside0.mk (row_upd (Bnd.row RX.out (E := 36 :: k36.E) (fun _ h => h)) q3 (fun k h1 h2 => bnd_apart (by decide) h1 h2))
                  have JD2 := Aside0.mk q5
                  have MD2 := Aside0.mk q2
                  have MC2 := Aside0.mk (MC1.out.upd q3 (fun k h1 h2 => h1.1.elim (fun h => HSS.out.2.2 k h.1 h2.1.1) (fun h => absurd h2.1.2.1 (by omega))))
                  have U2 := Aside0.mk (U1.out.trans q3 (fun k hk => .inr (HSS.out.2.1 k hk.1.1)))
                  have HSN := Aside0.mk (show (∀ k, Bnd w1 [58, 70, 72, 5] (New wr (Bnd wr [58, 70, 72, 5] Sc)) k → w.heap.size ≤ k) ∧ (∀ k, New w1 (Bnd w1 [58, 70, 72, 5] (Bnd wr [58, 70, 72, 5] Sd)) k → w.heap.size ≤ k) ∧ (∀ k, Bnd w1 [58, 70, 72, 5] (New wr (Bnd wr [58, 70, 72, 5] Sc)) k → ¬ New w1 (Bnd w1 [58, 70, 72, 5] (Bnd wr [58, 70, 72, 5] Sd)) k) from
                    ⟨fun k h => h.1.elim (fun h => HSS.out.1 k h.1) (fun h => Nat.le_trans UU.out.size h), fun k h => h.elim (fun h => HSS.out.2.1 k h.1.1) (fun h => Nat.le_trans U1.out.size h), fun k h h2 => h2.elim (fun h2 => h.1.elim (fun h => HSS.out.2.2 k h.1 h2.1.1) (fun h => absurd h2.1.2.1 (by omega))) (fun h2 => absurd h.2.1 (by omega))⟩)
                  clear q1 q2 q3 q4 q5 MD1 RX MC1 U1))
            | (go_at_call 15
               (with_reducible refine (gantletref09_Same.calls 100000 Ac cc x Ad cd x true _ (Kd.R_reads' RX2.out).2.2 (Kd.R_reads' RX2.out).2.1 (Kd.R_reads' RY.out).2.2 (Kd.R_reads' RY.out).2.1 (same_refl 100000 x (by have := LX.out; omega) (by have := LX.out; omega))).mono ?_)
               rintro e w3 ⟨rfl, hb⟩
               have hu := (Upd.of_below hb.below : Upd None0 _ _)
               have MC3 := Aside0.mk (MC2.out.updN hu)
               have MD3 := Aside0.mk (MD2.out.updN hu)
               have U3 := Aside0.mk (U2.out.trans hu (fun _ h => h.elim))
               clear hb hu MC2 MD2 U2))
          go_roundg (gk - 1)
          case measure => have := JI.out.2.1; omega
          case rel => exact ⟨j + 1, kt + 1, s', rcc2, rco2, rcd2, rdo2, _, _, by simp, ⟨by omega, by have := JI.out.2.1; omega, by have := JI.out.2.2.1; omega, JC2.out, JD2.out⟩, MC3, MD3, HSN, U3⟩
        have hljd : decide ((j : Int) < (mo.size : Int)) = false := decide_eq_false (by omega)
        go_wp2_with (first
          | (go_at_call 20
             first
             | ((with_reducible refine (mach_at gc most t _ _ _ _ MC.out rfl).mono ?_)
                rintro e wx ⟨rfl, rfl⟩)
             | ((with_reducible refine (mach_at gd most t _ _ _ _ MD.out rfl).mono ?_)
                rintro e wx ⟨rfl, rfl⟩))
          | (go_at_call 21
             first
             | ((with_reducible refine (mach_doneW gc most t _ _ _ _ _ MC.out rfl).mono ?_)
                rintro e wx ⟨rfl, rfl⟩)
             | ((with_reducible refine (mach_doneW gd most t _ _ _ _ _ MD.out rfl).mono ?_)
                rintro e wx ⟨rfl, rfl⟩)))
        go_ret
        exact ⟨by simp, UU.out.below0⟩
def gantletlaw09_EventCopies.f (a0 a1 : ByteArray) (a2 : Int) : Option Bool := some true
theorem gantletlaw09_EventCopies.calls (a0 a1 : ByteArray) (a2 : Int) (r : Bool) (w : World) (h : gantletlaw09_EventCopies.f a0 a1 a2 = some r) :
    Calls Try.prog 10 #[.string a0, .string a1, .int .i64 a2] w fun e w' => e = .returned (.bool r) ∧ Below w.heap.size w w' := by
  unfold gantletlaw09_EventCopies.f at h
  obtain rfl := Option.some.inj h
  exact gantletlaw09_EventCopies.any a0 a1 a2 w
end Go.Proofs.Ytomaajagncjiiaa.PC
