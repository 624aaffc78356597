/- The law HeadPushed, walked by hand: a reader is handed byte after byte, held against the reference. -/
import Derived.Test.YthmgabfhibkaiaaPBx6
import Derived.Test.YthmgabfhibkaiaaPBx9
import Derived.Test.YthmgabfhibkaiaaBRf
import Derived.Test.YthmgabfhibkaiaaBs
import Derived.Test.YthmgabfhibkaiaaOwn
import Derived.Outline
namespace Go.Proofs.Ythmgabfhibkaiaa.PB
open Go.RowKit Go.Proofs.YthmgabfhibkaiaaW.PrintWords Go.Proofs.YthmgabfhibkaiaaW.PrintLast Go.Proofs.YthmgabfhibkaiaaW.PrintMore Go.Proofs.Ythmgabfhibkaiaa.Own
attribute [local go_sem] max2_int min2_int max_two min_two max_three min_three max_four min_four
set_option linter.unusedVariables false
set_option linter.unusedSimpArgs false
def gantletlaw07_HeadPushed.f (a0 : ByteArray) : Option Bool := if a0.size ≤ 140737488351232 then some true else none
theorem eqAH (d : Nat) (w : World) (x0 y0 : Int) (x1 y1 : Int) (x2 y2 : Bool) (x3 y3 : Int) :
    (Op.equalIn (d + 2) 23 (.agg #[.int .i64 x0, .int .i64 x1, .bool x2, .int .i64 x3]) (.agg #[.int .i64 y0, .int .i64 y1, .bool y2, .int .i64 y3])).run Try.prog w = .ok (x0 == y0 && (x1 == y1 && (x2 == y2 && (x3 == y3)))) w := by
  refine eqA_of Try.underlying23 (by kernel_rfl) ?_
  refine eqf_cons (by rfl) (by go_simp; rfl) (by go_simp; rfl) (by go_simp) ?_
  refine eqf_cons (by rfl) (by go_simp; rfl) (by go_simp; rfl) (by go_simp) ?_
  refine eqf_cons (by rfl) (by go_simp; rfl) (by go_simp; rfl) (by go_simp) ?_
  exact eqf_last (by rfl) (by go_simp; rfl) (by go_simp; rfl) (by go_simp)
attribute [local go_sem high] eqAH
open Go.Proofs.Ythmgabfhibkaiaa.BHd Go.Proofs.Ythmgabfhibkaiaa.Hdm Go.Proofs.Ythmgabfhibkaiaa.Idm
set_option maxHeartbeats 16000000 in
set_option maxRecDepth 100000 in
theorem gantletlaw07_HeadPushed.any (a : ByteArray) (w : World) (hs : a.size ≤ 140737488351232) :
    Calls Try.prog 5 #[.string a] w fun e w' => e = .returned (.bool true) ∧ Below w.heap.size w w' := by
  have HU := Aside0.mk (Upd.refl None0 w)
  have hu_ := Try.underlying23
  go_enter Try.func5, Try.ntmps5
  by_cases hgs : a.size ≤ 300
  case neg =>
    have y1 : decide (300 < (a.size : Int)) = true := decide_eq_true (by omega)
    have y2 : decide (300 < a.size) = true := decide_eq_true (by omega)
    go_wp2_with (first
      | (go_at_call 14
         (with_reducible refine (reader_new _).mono ?_)
         rintro e w1 ⟨g, rfl, hs, hu0⟩
         have hs1 := hs.mono (fun k hk => hk.elim (fun h => h.elim) (fun h => (.inr (Nat.le_trans ((by exact ul HU) : Upd None0 w _).size h) : New w None0 k)))
         clear hs
         have hu := (hu0 : Upd None0 _ _)
         replace HU := Aside0.mk (((by exact ul HU) : Upd None0 w _).trans hu (fun _ h => h.elim))
         clear hu
         have P_S := Aside0.mk hs1; clear hs1)
      | (go_at_call 11
         first
         | ((with_reducible refine (gantletlaw07_awake.any _).mono ?_)
            rintro e w2 ⟨rfl, hb⟩
            have hu := (Upd.of_below hb : Upd None0 _ _)
            replace P_S := Aside0.mk (Rd.updN (by exact P_S.out.updN lu) hu)
            replace HU := Aside0.mk (((by exact ul HU) : Upd None0 w _).trans hu (fun _ h => h.elim))
            clear hu)
         | ((with_reducible refine (gantletlaw07_awake.any _).mono ?_)
            rintro e w3 ⟨rfl, hb⟩
            have hu := (Upd.of_below hb : Upd None0 _ _)
            replace P_S := Aside0.mk (Rd.updN (by exact P_S.out.updN lu) hu)
            replace HU := Aside0.mk (((by exact ul HU) : Upd None0 w _).trans hu (fun _ h => h.elim))
            clear hu)))
    go_ret
    exact ⟨rfl, HU.out.below0⟩
  have y1 : decide (300 < (a.size : Int)) = false := decide_eq_false (by omega)
  have y2 : decide (300 < a.size) = false := decide_eq_false (by omega)
  have hs2 : (a.size : Int) ≤ 300 := by omega
  go_wp2_with (first
    | (go_at_call 14
       (with_reducible refine (reader_new _).mono ?_)
       rintro e w1 ⟨g, rfl, hs, hu0⟩
       have hs1 := hs.mono (fun k hk => hk.elim (fun h => h.elim) (fun h => (.inr (Nat.le_trans ((by exact ul HU) : Upd None0 w _).size h) : New w None0 k)))
       clear hs
       have hu := (hu0 : Upd None0 _ _)
       replace HU := Aside0.mk (((by exact ul HU) : Upd None0 w _).trans hu (fun _ h => h.elim))
       clear hu
       have P_S := Aside0.mk hs1; clear hs1)
    | (go_at_call 11
       first
       | ((with_reducible refine (gantletlaw07_awake.any _).mono ?_)
          rintro e w2 ⟨rfl, hb⟩
          have hu := (Upd.of_below hb : Upd None0 _ _)
          replace P_S := Aside0.mk (Rd.updN (by exact P_S.out.updN lu) hu)
          replace HU := Aside0.mk (((by exact ul HU) : Upd None0 w _).trans hu (fun _ h => h.elim))
          clear hu)
       | ((with_reducible refine (gantletlaw07_awake.any _).mono ?_)
          rintro e w3 ⟨rfl, hb⟩
          have hu := (Upd.of_below hb : Upd None0 _ _)
          replace P_S := Aside0.mk (Rd.updN (by exact P_S.out.updN lu) hu)
          replace HU := Aside0.mk (((by exact ul HU) : Upd None0 w _).trans hu (fun _ h => h.elim))
          clear hu)))
  go_loopg [4, 5, 28] a.size (fun gk v4 v5 v28 wr => ∃ (i fr : Nat) (over : Int) (came : List Int), v4 = .int .i64 (fr : Int) ∧ v5 = .int .i64 over ∧ v28 = .int .i64 (i : Int) ∧ Aside0 (i ≤ a.size ∧ a.size - i ≤ gk ∧ fr ≤ i ∧ came.length ≤ i ∧ (over = 0 → came = ((bytesOf a).take i).drop fr)) ∧ Aside0 (Rd wr (New w None0) g came over) ∧ Aside0 (Upd None0 w wr))
  case atStart => exact ⟨0, 0, 0, [], rfl, rfl, rfl, ⟨by omega, by omega, by omega, by simp, fun _ => by simp⟩, P_S, HU⟩
  case round =>
    clear P_S HU
    obtain ⟨i, fr, over, came, rfl, rfl, rfl, HI, P_S, HU⟩ := hrel
    have hk0 : (0 : Int) ≤ (i : Int) := by omega
    have hkm : (i : Int) ≤ 300 := by have := HI.out.1; omega
    have hf0 : (0 : Int) ≤ (fr : Int) := by omega
    have hfm : (fr : Int) ≤ 300 := by have := HI.out.2.2.1; omega
    by_cases hlt : i < a.size
    case neg =>
      have hltd : decide ((i : Int) < (a.size : Int)) = false := decide_eq_false (by omega)
      go_wp2
      go_ret
      exact ⟨rfl, HU.out.below0⟩
    have hltd : decide ((i : Int) < (a.size : Int)) = true := decide_eq_true (by omega)
    have hlti : (i : Int) < (a.size : Int) := by omega
    obtain ⟨b, hb⟩ : ∃ q, bt a (i : Int) = q := ⟨_, rfl⟩
    have hbx : ∀ h : i < a.size, (((a[i]'h).toNat : Nat) : Int) = b := by rw [← hb]; exact bt_at a (i : Int)
    have hbr := bt_range a (i : Int)
    rw [hb] at hbr
    by_cases ho : over = 0
    case neg =>
      have HOV := Aside0.mk ho
      have y3 : (over == 0) = false := beq_eq_false_iff_ne.2 ho
      have y4 : (over != 0) = true := bne_iff_ne.2 ho
      clear ho hb
      go_wp2_with (first
        | (go_at_call 15
           (with_reducible refine (reader_over g came over b _ _ (Rd.bnd (by exact P_S.out.updN lu)) HOV.out).mono ?_)
           rintro e w1 ⟨rfl, hs, hu⟩
           have hs2 := hs.mono (fun k hk => hk.elim (fun h => h.1) (fun h => .inr (Nat.le_trans ((by exact ul HU) : Upd None0 w _).size h)))
           replace HU := Aside0.mk (((by exact ul HU) : Upd None0 w _).trans hu (fun k hk => hk.1))
           clear hu
           clear P_S hs; have P_S := Aside0.mk hs2; clear hs2)
        | ((with_reducible refine gate_dst (N := 7) rfl ?_)
           refine boxnew ?hg (N := 7) ?hd (cs := #[.int .i64 0, .int .i64 0, .bool false, .int .i64 0]) (t := 23) ?hr ?_; (case hd => rfl); (case hg => rfl); (case hr => first | (go_simp; done) | (go_simp; rfl))
           intro g_h hge w2 hbox hu
           have GE_h := Aside0.mk (Nat.le_trans ((by exact ul HU) : Upd None0 w _).size hge)
           replace P_S := Aside0.mk (Rd.updN (by exact P_S.out.updN lu) hu)
           replace HU := Aside0.mk (((by exact ul HU) : Upd None0 w _).trans hu (fun _ h => h.elim))
           clear hu
           have B_h := Aside0.mk hbox; clear hbox hge
           have hc_h_0 := co B_h 0 (.int .i64 0) rfl; have hc_h_1 := co B_h 1 (.int .i64 0) rfl; have hc_h_2 := co B_h 2 (.bool false) rfl; have hc_h_3 := co B_h 3 (.int .i64 0) rfl)
        | ((with_reducible refine gate_store (t := 23) (p := 7) (v := .tmp 37) rfl ?_)
           refine rowput rfl 23 (.tmp 7) (.tmp 37) rfl rfl g_h #[.int .i64 0, .int .i64 0, .bool false, .int .i64 0] rfl rfl 23 #[.int .i64 0, .int .i64 0, .bool false, .int .i64 0] (by exact bl B_h) (by kernel_rfl) rfl (by simp [Value.oneCell']) ?_
           intro w3 hbox hu
           replace P_S := Aside0.mk (Rd.updT (by exact P_S.out.updN lu) (by exact bl B_h) (by decide) hu)
           replace HU := Aside0.mk (((by exact ul HU) : Upd None0 w _).trans hu (fun k hk => .inr (by rw [hk]; exact GE_h.out)))
           clear hu
           clear B_h; have B_h := Aside0.mk hbox; clear hbox
           (try clear hc_h_0 hc_h_1 hc_h_2 hc_h_3)
           have hc_h_0 := co B_h 0 (.int .i64 0) rfl; have hc_h_1 := co B_h 1 (.int .i64 0) rfl; have hc_h_2 := co B_h 2 (.bool false) rfl; have hc_h_3 := co B_h 3 (.int .i64 0) rfl))
      repeat (go_quiet (fail); try go_wp2)
      go_roundg (gk - 1)
      case measure => have := HI.out; omega
      case rel => exact ⟨i + 1, fr, over, came, rfl, rfl, by simp, ⟨by omega, by have := HI.out; omega, by have := HI.out; omega, by have := HI.out; omega, fun h => absurd h HOV.out⟩, P_S, HU⟩
    subst ho
    have hcame := HI.out.2.2.2.2 rfl
    have hby := BId.bytes_of a
    have hib : (bytesOf a).take (i + 1) = (bytesOf a).take i ++ [b] := by
      rw [List.take_add_one]
      have := BId.drop_at a (i : Int) hk0 hlti
      rw [hb, Int.toNat_natCast] at this
      rw [show (bytesOf a)[i]? = some b by rw [← List.head?_drop, this]; rfl]
      rfl
    have htl : ((bytesOf a).take i).length = i := by rw [List.length_take, bytesOf_length]; omega
    have htk : came ++ [b] = ((bytesOf a).take (i + 1)).drop fr := by
      rw [hib, List.drop_append_of_le_length (by have := HI.out.2.2.1; omega), ← hcame]
    obtain ⟨came2, hx⟩ : ∃ q, came ++ [b] = q := ⟨_, rfl⟩
    rw [hx] at htk
    have hcb : Bytes came2 := by
      rw [htk]; intro x hxm; exact hby x (List.mem_of_mem_take (List.mem_of_mem_drop hxm))
    have hsz2 : (strOfNums came2).size ≤ 301 := by
      rw [← bytesOf_length, BId.bytesOf_nums _ hcb, ← hx, List.length_append]; have := HI.out.2.2.2.1; simp; omega
    have k1 := hget_ok (strOfNums came2) (by omega) 0 (by omega) (by omega) 1000 (by omega)
    rw [BId.bytesOf_nums _ hcb, show ((0 : Int)).toNat = 0 from rfl, List.drop_zero] at k1
    have hex : (a.extract 0 (i + 1)).size = i + 1 := by rw [ByteArray.size_extract]; omega
    have hfri := HI.out.2.2.1
    have k2 := rhget_ok (a.extract 0 (i + 1)) (by omega) (fr : Int) hf0 (by omega) 1000 (by omega)
    have e2 : (bytesOf (a.extract 0 (i + 1))).drop ((fr : Int)).toNat = came2 := by
      rw [Bs.bytesOf_front, htk, Int.toNat_natCast]
    rw [e2] at k2
    obtain ⟨⟨t1, t2, t3, t4, p, t6⟩, hgt⟩ : ∃ q, hg came2 = q := ⟨_, rfl⟩
    rw [hgt] at k1 k2
    simp only [gotH] at k1 k2
    obtain ⟨t5, h5⟩ : ∃ q : Int, (0 : Int) + (p : Int) = q := ⟨_, rfl⟩
    obtain ⟨t7, h7⟩ : ∃ q : Int, (fr : Int) + (p : Int) = q := ⟨_, rfl⟩
    rw [h5] at k1
    rw [h7] at k2
    have HX := Aside0.mk hx
    have HTK := Aside0.mk htk
    have HCL := Aside0.mk (show came.length ≤ 100000 by have := HI.out.2.2.2.1; omega)
    clear hx htk hcame hib htl hcb hsz2 hex e2 hgt h5 h7 hby hb hfri
    by_cases h0 : t6 = 0
    case pos =>
      subst h0
      have K1 := Aside0.mk k1
      have K2 := Aside0.mk k2
      clear k1 k2
      go_wp2_with (first
        | (go_at_call 15
           (with_reducible refine (reader_ok 1000 g came came2 b t1 t2 t3 t4 t5 0 _ _ (Rd.bnd (by exact P_S.out.updN lu)) HCL.out HX.out K1.out).mono ?_)
           rintro e w1 ⟨rfl, hs, hu⟩
           have hs2 := hs.mono (fun k hk => hk.elim (fun h => h.1) (fun h => .inr (Nat.le_trans ((by exact ul HU) : Upd None0 w _).size h)))
           replace HU := Aside0.mk (((by exact ul HU) : Upd None0 w _).trans hu (fun k hk => hk.1))
           clear hu
           clear P_S hs; have P_S := Aside0.mk hs2; clear hs2)
        | ((with_reducible refine gate_dst (N := 7) rfl ?_)
           refine boxnew ?hg (N := 7) ?hd (cs := #[.int .i64 0, .int .i64 0, .bool false, .int .i64 0]) (t := 23) ?hr ?_; (case hd => rfl); (case hg => rfl); (case hr => first | (go_simp; done) | (go_simp; rfl))
           intro g_h hge w2 hbox hu
           have GE_h := Aside0.mk (Nat.le_trans ((by exact ul HU) : Upd None0 w _).size hge)
           replace P_S := Aside0.mk (Rd.updN (by exact P_S.out.updN lu) hu)
           replace HU := Aside0.mk (((by exact ul HU) : Upd None0 w _).trans hu (fun _ h => h.elim))
           clear hu
           have B_h := Aside0.mk hbox; clear hbox hge
           have hc_h_0 := co B_h 0 (.int .i64 0) rfl; have hc_h_1 := co B_h 1 (.int .i64 0) rfl; have hc_h_2 := co B_h 2 (.bool false) rfl; have hc_h_3 := co B_h 3 (.int .i64 0) rfl)
        | ((with_reducible refine gate_store (t := 23) (p := 7) (v := .tmp 37) rfl ?_)
           refine rowput rfl 23 (.tmp 7) (.tmp 37) rfl rfl g_h #[.int .i64 t1, .int .i64 t2, .bool t3, .int .i64 t4] rfl rfl 23 #[.int .i64 0, .int .i64 0, .bool false, .int .i64 0] (by exact bl B_h) (by kernel_rfl) rfl (by simp [Value.oneCell']) ?_
           intro w3 hbox hu
           replace P_S := Aside0.mk (Rd.updT (by exact P_S.out.updN lu) (by exact bl B_h) (by decide) hu)
           replace HU := Aside0.mk (((by exact ul HU) : Upd None0 w _).trans hu (fun k hk => .inr (by rw [hk]; exact GE_h.out)))
           clear hu
           clear B_h; have B_h := Aside0.mk hbox; clear hbox
           (try clear hc_h_0 hc_h_1 hc_h_2 hc_h_3)
           have hc_h_0 := co B_h 0 (.int .i64 t1) rfl; have hc_h_1 := co B_h 1 (.int .i64 t2) rfl; have hc_h_2 := co B_h 2 (.bool t3) rfl; have hc_h_3 := co B_h 3 (.int .i64 t4) rfl)
        | (go_at_call 13
           (with_reducible refine (gantletref07_Get.calls 1000 (a.extract 0 (i + 1)) (fr : Int) t1 t2 t3 t4 t7 0 _ K2.out).mono ?_)
           rintro e w4 ⟨rfl, hb⟩
           have hu := (Upd.of_below hb : Upd None0 _ _)
           replace B_h := Aside0.mk (hu.blk (by exact bl B_h) (fun h => h))
           replace P_S := Aside0.mk (Rd.updN (by exact P_S.out.updN lu) hu)
           replace HU := Aside0.mk (((by exact ul HU) : Upd None0 w _).trans hu (fun _ h => h.elim))
           clear hu
           (try clear hc_h_0 hc_h_1 hc_h_2 hc_h_3)
           have hc_h_0 := co B_h 0 (.int .i64 t1) rfl; have hc_h_1 := co B_h 1 (.int .i64 t2) rfl; have hc_h_2 := co B_h 2 (.bool t3) rfl; have hc_h_3 := co B_h 3 (.int .i64 t4) rfl)
        | ((with_reducible refine gate_dst (N := 10) rfl ?_)
           refine boxnew ?hg (N := 10) ?hd (cs := #[.int .i64 0, .int .i64 0, .bool false, .int .i64 0]) (t := 23) ?hr ?_; (case hd => rfl); (case hg => rfl); (case hr => first | (go_simp; done) | (go_simp; rfl))
           intro g_m hge w5 hbox hu
           have NE_h_m := Aside0.mk (blk_fresh (by exact bl B_h) hge)
           have GE_m := Aside0.mk (Nat.le_trans ((by exact ul HU) : Upd None0 w _).size hge)
           replace B_h := Aside0.mk (hu.blk (by exact bl B_h) (fun h => h))
           replace P_S := Aside0.mk (Rd.updN (by exact P_S.out.updN lu) hu)
           replace HU := Aside0.mk (((by exact ul HU) : Upd None0 w _).trans hu (fun _ h => h.elim))
           clear hu
           have B_m := Aside0.mk hbox; clear hbox hge
           (try clear hc_h_0 hc_h_1 hc_h_2 hc_h_3)
           have hc_h_0 := co B_h 0 (.int .i64 t1) rfl; have hc_h_1 := co B_h 1 (.int .i64 t2) rfl; have hc_h_2 := co B_h 2 (.bool t3) rfl; have hc_h_3 := co B_h 3 (.int .i64 t4) rfl; have hc_m_0 := co B_m 0 (.int .i64 0) rfl; have hc_m_1 := co B_m 1 (.int .i64 0) rfl; have hc_m_2 := co B_m 2 (.bool false) rfl; have hc_m_3 := co B_m 3 (.int .i64 0) rfl)
        | ((with_reducible refine gate_store (t := 23) (p := 10) (v := .tmp 60) rfl ?_)
           refine rowput rfl 23 (.tmp 10) (.tmp 60) rfl rfl g_m #[.int .i64 t1, .int .i64 t2, .bool t3, .int .i64 t4] rfl rfl 23 #[.int .i64 0, .int .i64 0, .bool false, .int .i64 0] (by exact bl B_m) (by kernel_rfl) rfl (by simp [Value.oneCell']) ?_
           intro w6 hbox hu
           replace B_h := Aside0.mk (hu.blk (by exact bl B_h) NE_h_m.out)
           replace P_S := Aside0.mk (Rd.updT (by exact P_S.out.updN lu) (by exact bl B_m) (by decide) hu)
           replace HU := Aside0.mk (((by exact ul HU) : Upd None0 w _).trans hu (fun k hk => .inr (by rw [hk]; exact GE_m.out)))
           clear hu
           clear B_m; have B_m := Aside0.mk hbox; clear hbox
           (try clear hc_h_0 hc_h_1 hc_h_2 hc_h_3 hc_m_0 hc_m_1 hc_m_2 hc_m_3)
           have hc_h_0 := co B_h 0 (.int .i64 t1) rfl; have hc_h_1 := co B_h 1 (.int .i64 t2) rfl; have hc_h_2 := co B_h 2 (.bool t3) rfl; have hc_h_3 := co B_h 3 (.int .i64 t4) rfl; have hc_m_0 := co B_m 0 (.int .i64 t1) rfl; have hc_m_1 := co B_m 1 (.int .i64 t2) rfl; have hc_m_2 := co B_m 2 (.bool t3) rfl; have hc_m_3 := co B_m 3 (.int .i64 t4) rfl))
      repeat (go_quiet (fail); try go_wp2)
      go_roundg (gk - 1)
      case measure => have := HI.out; omega
      case rel => exact ⟨i + 1, i + 1, 0, [], by simp, rfl, by simp, ⟨by omega, by have := HI.out; omega, by omega, by simp, fun _ => by rw [List.drop_eq_nil_of_le (by rw [List.length_take]; omega)]⟩, P_S, HU⟩
    by_cases h2 : t6 = 2
    case pos =>
      subst h2
      have K1 := Aside0.mk k1
      have K2 := Aside0.mk k2
      clear k1 k2 h0
      go_wp2_with (first
        | (go_at_call 15
           (with_reducible refine (reader_cut 1000 g came came2 b t1 t2 t3 t4 t5 0 _ _ (Rd.bnd (by exact P_S.out.updN lu)) HCL.out HX.out K1.out).mono ?_)
           rintro e w1 ⟨rfl, hs, hu⟩
           have hs2 := hs.mono (fun k hk => hk.elim (fun h => h.1) (fun h => .inr (Nat.le_trans ((by exact ul HU) : Upd None0 w _).size h)))
           replace HU := Aside0.mk (((by exact ul HU) : Upd None0 w _).trans hu (fun k hk => hk.1))
           clear hu
           clear P_S hs; have P_S := Aside0.mk hs2; clear hs2)
        | ((with_reducible refine gate_dst (N := 7) rfl ?_)
           refine boxnew ?hg (N := 7) ?hd (cs := #[.int .i64 0, .int .i64 0, .bool false, .int .i64 0]) (t := 23) ?hr ?_; (case hd => rfl); (case hg => rfl); (case hr => first | (go_simp; done) | (go_simp; rfl))
           intro g_h hge w2 hbox hu
           have GE_h := Aside0.mk (Nat.le_trans ((by exact ul HU) : Upd None0 w _).size hge)
           replace P_S := Aside0.mk (Rd.updN (by exact P_S.out.updN lu) hu)
           replace HU := Aside0.mk (((by exact ul HU) : Upd None0 w _).trans hu (fun _ h => h.elim))
           clear hu
           have B_h := Aside0.mk hbox; clear hbox hge
           have hc_h_0 := co B_h 0 (.int .i64 0) rfl; have hc_h_1 := co B_h 1 (.int .i64 0) rfl; have hc_h_2 := co B_h 2 (.bool false) rfl; have hc_h_3 := co B_h 3 (.int .i64 0) rfl)
        | ((with_reducible refine gate_store (t := 23) (p := 7) (v := .tmp 37) rfl ?_)
           refine rowput rfl 23 (.tmp 7) (.tmp 37) rfl rfl g_h #[.int .i64 0, .int .i64 0, .bool false, .int .i64 0] rfl rfl 23 #[.int .i64 0, .int .i64 0, .bool false, .int .i64 0] (by exact bl B_h) (by kernel_rfl) rfl (by simp [Value.oneCell']) ?_
           intro w3 hbox hu
           replace P_S := Aside0.mk (Rd.updT (by exact P_S.out.updN lu) (by exact bl B_h) (by decide) hu)
           replace HU := Aside0.mk (((by exact ul HU) : Upd None0 w _).trans hu (fun k hk => .inr (by rw [hk]; exact GE_h.out)))
           clear hu
           clear B_h; have B_h := Aside0.mk hbox; clear hbox
           (try clear hc_h_0 hc_h_1 hc_h_2 hc_h_3)
           have hc_h_0 := co B_h 0 (.int .i64 0) rfl; have hc_h_1 := co B_h 1 (.int .i64 0) rfl; have hc_h_2 := co B_h 2 (.bool false) rfl; have hc_h_3 := co B_h 3 (.int .i64 0) rfl)
        | (go_at_call 13
           (with_reducible refine (gantletref07_Get.calls 1000 (a.extract 0 (i + 1)) (fr : Int) t1 t2 t3 t4 t7 2 _ K2.out).mono ?_)
           rintro e w4 ⟨rfl, hb⟩
           have hu := (Upd.of_below hb : Upd None0 _ _)
           replace B_h := Aside0.mk (hu.blk (by exact bl B_h) (fun h => h))
           replace P_S := Aside0.mk (Rd.updN (by exact P_S.out.updN lu) hu)
           replace HU := Aside0.mk (((by exact ul HU) : Upd None0 w _).trans hu (fun _ h => h.elim))
           clear hu
           (try clear hc_h_0 hc_h_1 hc_h_2 hc_h_3)
           have hc_h_0 := co B_h 0 (.int .i64 0) rfl; have hc_h_1 := co B_h 1 (.int .i64 0) rfl; have hc_h_2 := co B_h 2 (.bool false) rfl; have hc_h_3 := co B_h 3 (.int .i64 0) rfl)
        | ((with_reducible refine gate_dst (N := 10) rfl ?_)
           refine boxnew ?hg (N := 10) ?hd (cs := #[.int .i64 0, .int .i64 0, .bool false, .int .i64 0]) (t := 23) ?hr ?_; (case hd => rfl); (case hg => rfl); (case hr => first | (go_simp; done) | (go_simp; rfl))
           intro g_m hge w5 hbox hu
           have NE_h_m := Aside0.mk (blk_fresh (by exact bl B_h) hge)
           have GE_m := Aside0.mk (Nat.le_trans ((by exact ul HU) : Upd None0 w _).size hge)
           replace B_h := Aside0.mk (hu.blk (by exact bl B_h) (fun h => h))
           replace P_S := Aside0.mk (Rd.updN (by exact P_S.out.updN lu) hu)
           replace HU := Aside0.mk (((by exact ul HU) : Upd None0 w _).trans hu (fun _ h => h.elim))
           clear hu
           have B_m := Aside0.mk hbox; clear hbox hge
           (try clear hc_h_0 hc_h_1 hc_h_2 hc_h_3)
           have hc_h_0 := co B_h 0 (.int .i64 0) rfl; have hc_h_1 := co B_h 1 (.int .i64 0) rfl; have hc_h_2 := co B_h 2 (.bool false) rfl; have hc_h_3 := co B_h 3 (.int .i64 0) rfl; have hc_m_0 := co B_m 0 (.int .i64 0) rfl; have hc_m_1 := co B_m 1 (.int .i64 0) rfl; have hc_m_2 := co B_m 2 (.bool false) rfl; have hc_m_3 := co B_m 3 (.int .i64 0) rfl)
        | ((with_reducible refine gate_store (t := 23) (p := 10) (v := .tmp 60) rfl ?_)
           refine rowput rfl 23 (.tmp 10) (.tmp 60) rfl rfl g_m #[.int .i64 t1, .int .i64 t2, .bool t3, .int .i64 t4] rfl rfl 23 #[.int .i64 0, .int .i64 0, .bool false, .int .i64 0] (by exact bl B_m) (by kernel_rfl) rfl (by simp [Value.oneCell']) ?_
           intro w6 hbox hu
           replace B_h := Aside0.mk (hu.blk (by exact bl B_h) NE_h_m.out)
           replace P_S := Aside0.mk (Rd.updT (by exact P_S.out.updN lu) (by exact bl B_m) (by decide) hu)
           replace HU := Aside0.mk (((by exact ul HU) : Upd None0 w _).trans hu (fun k hk => .inr (by rw [hk]; exact GE_m.out)))
           clear hu
           clear B_m; have B_m := Aside0.mk hbox; clear hbox
           (try clear hc_h_0 hc_h_1 hc_h_2 hc_h_3 hc_m_0 hc_m_1 hc_m_2 hc_m_3)
           have hc_h_0 := co B_h 0 (.int .i64 0) rfl; have hc_h_1 := co B_h 1 (.int .i64 0) rfl; have hc_h_2 := co B_h 2 (.bool false) rfl; have hc_h_3 := co B_h 3 (.int .i64 0) rfl; have hc_m_0 := co B_m 0 (.int .i64 t1) rfl; have hc_m_1 := co B_m 1 (.int .i64 t2) rfl; have hc_m_2 := co B_m 2 (.bool t3) rfl; have hc_m_3 := co B_m 3 (.int .i64 t4) rfl))
      repeat (go_quiet (fail); try go_wp2)
      go_roundg (gk - 1)
      case measure => have := HI.out; omega
      case rel => exact ⟨i + 1, fr, 0, came2, rfl, rfl, by simp, ⟨by omega, by have := HI.out; omega, by have := HI.out; omega, by rw [← HX.out, List.length_append]; have := HI.out; simp; omega, fun _ => HTK.out⟩, P_S, HU⟩
    have K1 := Aside0.mk k1
    have K2 := Aside0.mk k2
    have HE0 := Aside0.mk h0
    have HE2 := Aside0.mk h2
    have y3 : (t6 == 0) = false := beq_eq_false_iff_ne.2 h0
    have y4 : (t6 == 2) = false := beq_eq_false_iff_ne.2 h2
    clear k1 k2 h0 h2
    go_wp2_with (first
      | (go_at_call 15
         (with_reducible refine (reader_err 1000 g came came2 b t1 t2 t3 t4 t5 t6 _ _ (Rd.bnd (by exact P_S.out.updN lu)) HCL.out HX.out K1.out HE0.out HE2.out).mono ?_)
         rintro e w1 ⟨rfl, hs, hu⟩
         have hs2 := hs.mono (fun k hk => hk.elim (fun h => h.1) (fun h => .inr (Nat.le_trans ((by exact ul HU) : Upd None0 w _).size h)))
         replace HU := Aside0.mk (((by exact ul HU) : Upd None0 w _).trans hu (fun k hk => hk.1))
         clear hu
         clear P_S hs; have P_S := Aside0.mk hs2; clear hs2)
      | ((with_reducible refine gate_dst (N := 7) rfl ?_)
         refine boxnew ?hg (N := 7) ?hd (cs := #[.int .i64 0, .int .i64 0, .bool false, .int .i64 0]) (t := 23) ?hr ?_; (case hd => rfl); (case hg => rfl); (case hr => first | (go_simp; done) | (go_simp; rfl))
         intro g_h hge w2 hbox hu
         have GE_h := Aside0.mk (Nat.le_trans ((by exact ul HU) : Upd None0 w _).size hge)
         replace P_S := Aside0.mk (Rd.updN (by exact P_S.out.updN lu) hu)
         replace HU := Aside0.mk (((by exact ul HU) : Upd None0 w _).trans hu (fun _ h => h.elim))
         clear hu
         have B_h := Aside0.mk hbox; clear hbox hge
         have hc_h_0 := co B_h 0 (.int .i64 0) rfl; have hc_h_1 := co B_h 1 (.int .i64 0) rfl; have hc_h_2 := co B_h 2 (.bool false) rfl; have hc_h_3 := co B_h 3 (.int .i64 0) rfl)
      | ((with_reducible refine gate_store (t := 23) (p := 7) (v := .tmp 37) rfl ?_)
         refine rowput rfl 23 (.tmp 7) (.tmp 37) rfl rfl g_h #[.int .i64 0, .int .i64 0, .bool false, .int .i64 0] rfl rfl 23 #[.int .i64 0, .int .i64 0, .bool false, .int .i64 0] (by exact bl B_h) (by kernel_rfl) rfl (by simp [Value.oneCell']) ?_
         intro w3 hbox hu
         replace P_S := Aside0.mk (Rd.updT (by exact P_S.out.updN lu) (by exact bl B_h) (by decide) hu)
         replace HU := Aside0.mk (((by exact ul HU) : Upd None0 w _).trans hu (fun k hk => .inr (by rw [hk]; exact GE_h.out)))
         clear hu
         clear B_h; have B_h := Aside0.mk hbox; clear hbox
         (try clear hc_h_0 hc_h_1 hc_h_2 hc_h_3)
         have hc_h_0 := co B_h 0 (.int .i64 0) rfl; have hc_h_1 := co B_h 1 (.int .i64 0) rfl; have hc_h_2 := co B_h 2 (.bool false) rfl; have hc_h_3 := co B_h 3 (.int .i64 0) rfl)
      | (go_at_call 13
         (with_reducible refine (gantletref07_Get.calls 1000 (a.extract 0 (i + 1)) (fr : Int) t1 t2 t3 t4 t7 t6 _ K2.out).mono ?_)
         rintro e w4 ⟨rfl, hb⟩
         have hu := (Upd.of_below hb : Upd None0 _ _)
         replace B_h := Aside0.mk (hu.blk (by exact bl B_h) (fun h => h))
         replace P_S := Aside0.mk (Rd.updN (by exact P_S.out.updN lu) hu)
         replace HU := Aside0.mk (((by exact ul HU) : Upd None0 w _).trans hu (fun _ h => h.elim))
         clear hu
         (try clear hc_h_0 hc_h_1 hc_h_2 hc_h_3)
         have hc_h_0 := co B_h 0 (.int .i64 0) rfl; have hc_h_1 := co B_h 1 (.int .i64 0) rfl; have hc_h_2 := co B_h 2 (.bool false) rfl; have hc_h_3 := co B_h 3 (.int .i64 0) rfl)
      | ((with_reducible refine gate_dst (N := 10) rfl ?_)
         refine boxnew ?hg (N := 10) ?hd (cs := #[.int .i64 0, .int .i64 0, .bool false, .int .i64 0]) (t := 23) ?hr ?_; (case hd => rfl); (case hg => rfl); (case hr => first | (go_simp; done) | (go_simp; rfl))
         intro g_m hge w5 hbox hu
         have NE_h_m := Aside0.mk (blk_fresh (by exact bl B_h) hge)
         have GE_m := Aside0.mk (Nat.le_trans ((by exact ul HU) : Upd None0 w _).size hge)
         replace B_h := Aside0.mk (hu.blk (by exact bl B_h) (fun h => h))
         replace P_S := Aside0.mk (Rd.updN (by exact P_S.out.updN lu) hu)
         replace HU := Aside0.mk (((by exact ul HU) : Upd None0 w _).trans hu (fun _ h => h.elim))
         clear hu
         have B_m := Aside0.mk hbox; clear hbox hge
         (try clear hc_h_0 hc_h_1 hc_h_2 hc_h_3)
         have hc_h_0 := co B_h 0 (.int .i64 0) rfl; have hc_h_1 := co B_h 1 (.int .i64 0) rfl; have hc_h_2 := co B_h 2 (.bool false) rfl; have hc_h_3 := co B_h 3 (.int .i64 0) rfl; have hc_m_0 := co B_m 0 (.int .i64 0) rfl; have hc_m_1 := co B_m 1 (.int .i64 0) rfl; have hc_m_2 := co B_m 2 (.bool false) rfl; have hc_m_3 := co B_m 3 (.int .i64 0) rfl)
      | ((with_reducible refine gate_store (t := 23) (p := 10) (v := .tmp 60) rfl ?_)
         refine rowput rfl 23 (.tmp 10) (.tmp 60) rfl rfl g_m #[.int .i64 t1, .int .i64 t2, .bool t3, .int .i64 t4] rfl rfl 23 #[.int .i64 0, .int .i64 0, .bool false, .int .i64 0] (by exact bl B_m) (by kernel_rfl) rfl (by simp [Value.oneCell']) ?_
         intro w6 hbox hu
         replace B_h := Aside0.mk (hu.blk (by exact bl B_h) NE_h_m.out)
         replace P_S := Aside0.mk (Rd.updT (by exact P_S.out.updN lu) (by exact bl B_m) (by decide) hu)
         replace HU := Aside0.mk (((by exact ul HU) : Upd None0 w _).trans hu (fun k hk => .inr (by rw [hk]; exact GE_m.out)))
         clear hu
         clear B_m; have B_m := Aside0.mk hbox; clear hbox
         (try clear hc_h_0 hc_h_1 hc_h_2 hc_h_3 hc_m_0 hc_m_1 hc_m_2 hc_m_3)
         have hc_h_0 := co B_h 0 (.int .i64 0) rfl; have hc_h_1 := co B_h 1 (.int .i64 0) rfl; have hc_h_2 := co B_h 2 (.bool false) rfl; have hc_h_3 := co B_h 3 (.int .i64 0) rfl; have hc_m_0 := co B_m 0 (.int .i64 t1) rfl; have hc_m_1 := co B_m 1 (.int .i64 t2) rfl; have hc_m_2 := co B_m 2 (.bool t3) rfl; have hc_m_3 := co B_m 3 (.int .i64 t4) rfl))
    repeat (go_quiet (fail); try go_wp2)
    go_roundg (gk - 1)
    case measure => have := HI.out; omega
    case rel => exact ⟨i + 1, fr, t6, came2, rfl, rfl, by simp, ⟨by omega, by have := HI.out; omega, by have := HI.out; omega, by rw [← HX.out, List.length_append]; have := HI.out; simp; omega, fun h => absurd h HE0.out⟩, P_S, HU⟩
theorem gantletlaw07_HeadPushed.calls (a0 : ByteArray) (r : Bool) (w : World) (h : gantletlaw07_HeadPushed.f a0 = some r) :
    Calls Try.prog 5 #[.string a0] w fun e w' => e = .returned (.bool r) ∧ Below w.heap.size w w' := by
  unfold gantletlaw07_HeadPushed.f at h
  by_cases hz : a0.size ≤ 140737488351232
  · rw [if_pos hz] at h
    obtain rfl := Option.some.inj h
    exact gantletlaw07_HeadPushed.any a0 w hz
  · rw [if_neg hz] at h
    exact absurd h (by simp)
end Go.Proofs.Ythmgabfhibkaiaa.PB
