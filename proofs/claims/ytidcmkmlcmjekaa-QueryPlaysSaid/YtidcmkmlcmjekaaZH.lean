/- The law QueryPlays, walked by hand. Conditions: the list and the acts are no longer than the row has them. -/
import Derived.Test.YtidcmkmlcmjekaaZG
import Derived.Outline
import Derived.Lib.SliceRun
import Derived.Laws.Rows
import Derived.Laws.BytesArg
namespace Go.Proofs.Ytidcmkmlcmjekaa.PA
open Go.RowKit Go.Proofs.YtidcmkmlcmjekaaW.PrintWords Go.Proofs.YtidcmkmlcmjekaaW.PrintLast Go.Proofs.YtidcmkmlcmjekaaW.PrintMore Go.Proofs.Ytidcmkmlcmjekaa.Own
attribute [local go_sem] max2_int min2_int max_two min_two max_three min_three max_four min_four
set_option linter.unusedVariables false
set_option linter.unusedSimpArgs false
theorem nums_append (a : List Int) (s : ByteArray) (hb : Bs.Bytes a) : strOfNums (a ++ bytesOf s) = strOfNums a ++ s := by
  apply Bs.bytesOf_inj
  have h : Bs.Bytes (a ++ bytesOf s) := fun x hx => (List.mem_append.1 hx).elim (hb x) (Bs.bytes_of s x)
  rw [Bs.bytesOf_nums _ h]
  have e : bytesOf (strOfNums a ++ s) = bytesOf (strOfNums a) ++ bytesOf s := by simp [bytesOf]
  rw [e, Bs.bytesOf_nums a hb]

theorem rq_new_set {w1 wm : World} {g : Nat} {A : Option Addr} {n c : Nat} {found : List S43} {came : ByteArray} {begun : Bool} (h : Rq wm (New w1 None0) g A n c found came begun) : ∃ S3, Rq wm S3 g A n c found came begun ∧ ∀ k, S3 k → w1.heap.size ≤ k ∧ k < wm.heap.size :=
  ⟨_, h.old, fun k h => ⟨h.1.elim (fun h => h.elim) id, h.2⟩⟩

theorem got_set {wb wX wq : World} {v : Value} {ys : List S43} (hb : wb.heap.size ≤ wX.heap.size) (hr : k43.R 43 wq 0 (New wX None0) v ys) : ∃ S5 : Nat → Prop, k43.R 43 wq 0 S5 v ys ∧ ∀ k, S5 k → wb.heap.size ≤ k :=
  ⟨_, hr, fun k h => h.elim (fun h => h.elim) (fun h => Nat.le_trans hb h)⟩
theorem rq_date_set {w0 wn wX w4 : World} {S1 S3 : Nat → Prop} {gm n c : Nat} {A : Option Addr} {an : List S43} {cm : ByteArray} {bg : Bool} (h : Rq w4 (New wX S3) gm A n c an cm bg) (hs : ∀ k, S3 k → w0.heap.size ≤ k ∧ ¬ S1 k) (h1 : ∀ k, S1 k → k < wn.heap.size) (hw : w0.heap.size ≤ wn.heap.size) (hx : wn.heap.size ≤ wX.heap.size) : ∃ S6 : Nat → Prop, Rq w4 S6 gm A n c an cm bg ∧ ∀ k, S6 k → w0.heap.size ≤ k ∧ ¬ S1 k :=
  ⟨_, h, fun k h => h.elim (hs k) (fun h => ⟨by omega, fun hk => by have := h1 k hk; omega⟩)⟩
theorem plays_pack {w W : World} {S1 S3 : Nat → Prop} {gq gm n c i : Nat} {A : Option Addr} {l : List ByteArray} {an : List S43} {cm : List Int} {bg : Bool} (hq : Qs W S1 gq l an cm bg) (hm : Rq W S3 gm A n c an (strOfNums cm) bg) (hs : ∀ k, S3 k → w.heap.size ≤ k ∧ ¬ S1 k) (hi : Bs.Bytes cm ∧ cm.length ≤ (i + 1) * 100 ∧ l.length = an.length) :
    ∃ (an2 : List S43) (cm2 : List Int) (bg2 : Bool) (S4 : Nat → Prop), Aside0 (Qs W S1 gq l an2 cm2 bg2) ∧ Aside0 (Rq W S4 gm A n c an2 (strOfNums cm2) bg2) ∧ Aside0 (∀ k, S4 k → (w.heap.size ≤ k ∧ ¬ S1 k) ∧ k < W.heap.size) ∧ Aside0 (Bs.Bytes cm2 ∧ cm2.length ≤ (i + 1) * 100) ∧ Aside0 (an2.length = l.length) :=
  ⟨an, cm, bg, _, ⟨hq⟩, ⟨hm.old⟩, ⟨fun k h => ⟨hs k h.1, h.2⟩⟩, ⟨⟨hi.1, hi.2.1⟩⟩, ⟨hi.2.2.symm⟩⟩

set_option maxHeartbeats 16000000 in
set_option maxRecDepth 100000 in
theorem gantletlaw18_QueryPlays.any (A : Option Addr) (c : Nat) (l : List ByteArray) (B : Option Addr) (cb : Nat) (acts : List S37) (w : World) (hC : Kd.C Kd.string w A l.length l) (hc : l.length ≤ c) (hB : Kd.C k37 w B acts.length acts) (hbc : acts.length ≤ cb) :
    Calls Try.prog 4 #[.slice A l.length c, .slice B acts.length cb] w fun e w' => e = .returned (.bool true) ∧ Upd None0 w w' := by
  have HU := Aside0.mk (Upd.refl None0 w)
  have HC := Aside0.mk hC
  have HCC := Aside0.mk hc
  have HB := Aside0.mk hB
  have HBC := Aside0.mk hbc
  have hu_ := Try.underlying43
  have hu2_ := Try.underlying37
  obtain ⟨rg, hg, hgf⟩ := BNum.great_ok l acts 600 (by decide)
  have HG := Aside0.mk hg
  clear hC hc hg hB hbc
  cases rg with
  | true =>
    clear hgf
    go_enter Try.func4, Try.ntmps4
    go_wp2_with (first
      | (go_at_call 8
         (with_reducible refine (awake_any _).mono ?_)
         rintro e wq ⟨rfl, hu⟩
         replace HU := Aside0.mk (((by exact ul HU) : Upd None0 w _).trans hu (fun _ h => h.elim))
         clear hu)
      | (go_at_call 9
         (with_reducible refine (great_c A c l l.length rfl B cb acts acts.length rfl true _ (cw HC (by exact ul HU)) HCC.out (cw HB (by exact ul HU)) HBC.out HG.out).mono ?_)
         rintro e wq ⟨rfl, hb⟩
         replace HU := Aside0.mk (((by exact ul HU) : Upd None0 w _).trans (Upd.of_below hb : Upd None0 _ _) (fun _ h => h.elim))
         clear hb))
    go_ret
    exact ⟨rfl, HU.out⟩
  | false =>
  obtain ⟨hl, hla, hsz, hsa⟩ := hgf rfl
  have HSZ := Aside0.mk (show ∀ x, x ∈ l → x.size ≤ 1000 from fun x hx => Nat.le_trans (hsz x hx) (by decide))
  have HL3 := Aside0.mk (show l.length ≤ 1000 by omega)
  have HLM := Aside0.mk (show l.length ≤ 100000 by omega)
  have HLA := Aside0.mk (show (([] : List ByteArray).length + l.length) * 16 ≤ 140737488355328 by simp; omega)
  have HSA := Aside0.mk hsa
  have HLAC := Aside0.mk hla
  obtain ⟨ra, hra⟩ : ∃ r, (l.all BNum.R && decide (l.length ≤ 64)) = r := ⟨_, rfl⟩
  have HALL := Aside0.mk hra
  clear hgf hsz hsa hla
  cases ra with
  | false =>
    clear hra hl
    go_enter Try.func4, Try.ntmps4
    go_wp2_with (first
      | (go_at_call 8
         (with_reducible refine (awake_any _).mono ?_)
         rintro e wq ⟨rfl, hu⟩
         replace HU := Aside0.mk (((by exact ul HU) : Upd None0 w _).trans hu (fun _ h => h.elim))
         clear hu)
      | (go_at_call 9
         (with_reducible refine (great_c A c l l.length rfl B cb acts acts.length rfl false _ (cw HC (by exact ul HU)) HCC.out (cw HB (by exact ul HU)) HBC.out HG.out).mono ?_)
         rintro e wq ⟨rfl, hb⟩
         replace HU := Aside0.mk (((by exact ul HU) : Upd None0 w _).trans (Upd.of_below hb : Upd None0 _ _) (fun _ h => h.elim))
         clear hb)
      | (go_at_call 11
         (with_reducible refine (all_c A c l l.length rfl false _ (cw HC (by exact ul HU)) HCC.out HL3.out HALL.out).mono ?_)
         rintro e wq ⟨rfl, hb⟩
         replace HU := Aside0.mk (((by exact ul HU) : Upd None0 w _).trans (Upd.of_below hb.below : Upd None0 _ _) (fun _ h => h.elim))
         clear hb))
    go_ret
    exact ⟨by simp, HU.out⟩
  | true =>
  have H20 := Aside0.mk (show ∀ s, s ∈ l → s.size ≤ 20 from fun s hs => by
    simp only [Bool.and_eq_true, List.all_eq_true] at hra
    have := hra.1 s hs
    unfold BNum.R at this
    simp only [Bool.and_eq_true, decide_eq_true_eq] at this
    exact this.1.2)
  clear hra hl
  go_enter Try.func4, Try.ntmps4
  go_wp2_with (first
    | (go_at_call 8
       (with_reducible refine (awake_any _).mono ?_)
       rintro e wq ⟨rfl, hu⟩
       replace HU := Aside0.mk (((by exact ul HU) : Upd None0 w _).trans hu (fun _ h => h.elim))
       clear hu)
    | (go_at_call 9
       (with_reducible refine (great_c A c l l.length rfl B cb acts acts.length rfl false _ (cw HC (by exact ul HU)) HCC.out (cw HB (by exact ul HU)) HBC.out HG.out).mono ?_)
       rintro e wq ⟨rfl, hb⟩
       replace HU := Aside0.mk (((by exact ul HU) : Upd None0 w _).trans (Upd.of_below hb : Upd None0 _ _) (fun _ h => h.elim))
       clear hb)
    | (go_at_call 11
       (with_reducible refine (all_c A c l l.length rfl true _ (cw HC (by exact ul HU)) HCC.out HL3.out HALL.out).mono ?_)
       rintro e wq ⟨rfl, hb⟩
       replace HU := Aside0.mk (((by exact ul HU) : Upd None0 w _).trans (Upd.of_below hb.below : Upd None0 _ _) (fun _ h => h.elim))
       clear hb)
    | ((with_reducible refine gate_dst (N := 27) rfl ?_)
       refine row_lit Kd.string 9 rfl (N := 27) rfl (xs := ([] : List ByteArray)) (inner := []) ?hr (Reps.none _ _) (by simp) ?_; (case hr => first | (go_simp; done) | (go_simp; rfl))
       intro v_e wl hr hu
       have R_e := Aside0.mk (row_mono hr (fun k h => h.elim (fun h => h.elim) (fun h => (.inr (Nat.le_trans ((by exact ul HU) : Upd None0 w _).size h) : New w None0 k))))
       
       replace HU := Aside0.mk (((by exact ul HU) : Upd None0 w _).trans hu (fun _ h => h.elim))
       clear hr hu)
    | ((with_reducible refine gate_builtin (b := .append) (xs := #[.tmp 27, .tmp 28]) rfl ?_); at_builtin
       refine row_append_rows (Kd.string) (S := New w None0) rfl (.tmp 27) (.tmp 28) 22 9 (.string ByteArray.empty) 16 rfl Try.underlying22 infoStr rfl (by decide) (by omega) v_e [] l A l.length c rfl rfl ?aO ?aR ?aM ?aL l rfl ?_
       (case aO => exact rl R_e); (case aR => exact cw HC (by exact ul HU)); (case aM => exact str_km _); (case aL => exact HLA.out)
       intro v_a wa ho hu
       obtain ⟨A_a, c_a, rfl⟩ := Kd.R_slice ho
       have R_a := Aside0.mk (row_mono ho (fun k hk => hk.elim id (fun h => (.inr (Nat.le_trans ((by exact ul HU) : Upd None0 w _).size h) : New w None0 k))))
       replace HU := Aside0.mk (((by exact ul HU) : Upd None0 w _).trans hu (fun k hk => .inr ((row_at R_e.out hk).elim (fun h => h.elim) id)))
       clear ho hu)
    | (go_at_call 10
       (with_reducible refine (q_newY A_a c_a l l.length rfl _ (by exact rc (rl R_a)) (Kd.R_reads' R_a.out).2.1 HSZ.out HALL.out).mono ?_)
       rintro e wn ⟨gq, rfl, hs, hu⟩
       have hs0 : Qs wn (New w None0) gq _ _ _ _ := hs.mono (fun k h => h.elim (fun h => h.elim) (fun h => (.inr (Nat.le_trans ((by exact ul HU) : Upd None0 w _).size h) : New w None0 k)))
       obtain ⟨S1, hs1, hS1⟩ := qs_new_set hs0
       have P_q := Aside0.mk hs1
       have HS1 := Aside0.mk hS1
       replace HU := Aside0.mk (((by exact ul HU) : Upd None0 w _).trans hu (fun _ h => h.elim))
       have HWN0 := Aside0.mk HU.out.size
       clear hs hu hs0 hs1 hS1)
    | (go_at_call 14
       (with_reducible refine (ref_new A l.length c _ HL3.out).mono ?_)
       rintro e wm ⟨gm, rfl, hs, hu⟩
       obtain ⟨S3, hs3, hS3⟩ := rq_new_set hs
       have P_m := Aside0.mk hs3
       have HWM := Aside0.mk (Nat.le_trans ((by exact lu) : Upd None0 wn _).size hu.size)
       have HS3 := Aside0.mk (show ∀ k, S3 k → w.heap.size ≤ k ∧ ¬ S1 k from fun k h =>
         have h2 : wn.heap.size ≤ k := Nat.le_trans ((by exact lu) : Upd None0 wn _).size (hS3 k h).1
         ⟨Nat.le_trans HWN0.out h2, fun h3 => by have := (HS1.out k h3).2; omega⟩)
       clear hs3 hS3
       replace P_q := Aside0.mk (Qs.updN (by exact P_q.out.updN lu) hu)
       replace HU := Aside0.mk (((by exact ul HU) : Upd None0 w _).trans hu (fun _ h => h.elim))
       clear hs hu))
  go_loopg [39] acts.length (fun gk v39 wr => ∃ (i : Nat) (S3 : Nat → Prop) (ans : List S43) (came : List Int) (bg : Bool), v39 = .int .i64 (i : Int) ∧ Aside0 (i ≤ acts.length ∧ acts.length - i ≤ gk ∧ Bs.Bytes came ∧ came.length ≤ i * 100 ∧ l.length = ans.length) ∧ Aside0 (Qs wr S1 gq l ans came bg) ∧ Aside0 (Rq wr S3 gm A l.length c ans (strOfNums came) bg) ∧ Aside0 (∀ k, S3 k → w.heap.size ≤ k ∧ ¬ S1 k) ∧ Aside0 (Upd None0 w wr ∧ wn.heap.size ≤ wr.heap.size))
  case atStart => exact ⟨0, _, _, [], false, rfl, ⟨Nat.zero_le _, by omega, fun x hx => by simp at hx, by simp, by simp⟩, P_q, P_m, HS3, ⟨HU.out, HWM.out⟩⟩
  case round =>
    clear P_q P_m HS3 HU HWM
    obtain ⟨i, S3, ans, came, bg, rfl, HI, P_q, P_m, HS3, HUU⟩ := hrel
    have HU := Aside0.mk HUU.out.1
    have HWR := Aside0.mk HUU.out.2
    clear HUU
    obtain ⟨gko, hgko⟩ : ∃ q, q = gk := ⟨_, rfl⟩
    rw [← hgko] at HI
    have hi0 : (0 : Int) ≤ (i : Int) := by omega
    have him : (i : Int) ≤ 200 := by have := HI.out.1; have := HLAC.out; omega
    by_cases hlt : i < acts.length
    case neg =>
      have hltd : decide ((i : Int) < (acts.length : Int)) = false := decide_eq_false (by omega)
      go_wp2
      go_ret
      exact ⟨rfl, HU.out⟩
    have hltd : decide ((i : Int) < (acts.length : Int)) = true := decide_eq_true (by omega)
    have hlti : (i : Int) < (acts.length : Int) := by omega
    obtain ⟨adb, e2, hk0, hk1⟩ := at_T37 (cw HB HU.out) (i : Int) hi0 hlti
    subst e2
    obtain ⟨ac, hac⟩ : ∃ q, rd_T37 acts (i : Int) = q := ⟨_, rfl⟩
    rw [hac, Int.toNat_natCast] at hk0 hk1
    have hsa : ac.f1.size ≤ 100 := by
      refine HSA.out ac ?_
      rw [← hac]
      have : rd_T37 acts (i : Int) = acts[i] := by simp [rd_T37, hlt]
      rw [this]; exact List.getElem_mem hlt
    clear hac
    obtain ⟨kd, tx⟩ := ac
    have HTX := Aside0.mk (show tx.size ≤ 100 from hsa)
    clear hsa
    replace P_m := Aside0.mk P_m.out.old
    have HBY := Aside0.mk HI.out.2.2.1
    have HCL := Aside0.mk (show came.length ≤ 20000 by have := HI.out.2.2.2.1; omega)
    have HLN := Aside0.mk HI.out.2.2.2.2
    by_cases hk1 : kd = 1
    · subst hk1
      go_wp2_with (first
        | ((with_reducible refine gate_dst (N := 9) rfl ?_)
           refine boxnew ?hg (N := 9) ?hd (cs := #[.int .i64 0, .string ByteArray.empty]) (t := 37) ?hr ?_; (case hd => rfl); (case hg => rfl); (case hr => first | (go_simp; done) | (go_simp; rfl))
           intro ga hge wA hbox hu
           have HGA := Aside0.mk (Nat.le_trans (lu : Upd None0 wr _).size hge)
           have HGW := Aside0.mk (Nat.le_trans (Nat.le_trans HU.out.size (lu : Upd None0 wr _).size) hge)
           replace P_q := Aside0.mk (Qs.updN (by exact P_q.out.updN lu) hu)
           replace P_m := Aside0.mk (Rq.updN (by exact P_m.out.updN lu) hu)
           replace HU := Aside0.mk (((by exact ul HU) : Upd None0 w _).trans hu (fun _ h => h.elim))
           have B_a := Aside0.mk hbox
           clear hu hbox hge)
        | ((with_reducible refine gate_store (t := 37) (p := 9) (v := .tmp 42) rfl ?_)
           refine rowput rfl 37 (.tmp 9) (.tmp 42) rfl rfl ga #[.int .i64 1, .string tx] rfl rfl 37 #[.int .i64 0, .string ByteArray.empty] (by exact bl B_a) (by kernel_rfl) rfl (by simp [Value.oneCell']) ?_
           intro wS hbox hu
           replace P_q := Aside0.mk (Qs.upd (by exact P_q.out.updN lu) hu (fun k h1 h2 => by have := (HS1.out k h1).2; have := HGA.out; have := HWR.out; omega))
           replace P_m := Aside0.mk (Rq.upd (by exact P_m.out.updN lu) hu (fun k h1 h2 => by have := h1.2; have := HGA.out; omega))
           replace HU := Aside0.mk (((by exact ul HU) : Upd None0 w _).trans hu (fun k hk => .inr (by rw [hk]; exact HGW.out)))
           clear B_a; have B_a := Aside0.mk hbox
           have HWS := Aside0.mk (Nat.le_trans HWR.out (Nat.le_trans HGA.out (Nat.le_of_lt (blk_lt hbox))))
           have hd0 := co B_a 0 (.int .i64 1) rfl
           have hd1 := co B_a 1 (.string tx) rfl
           clear hu hbox)
        | (go_at_call 15
           (with_reducible refine (q_begin gq _ _ _ _ _ _ (by exact P_q.out.updN lu)).mono ?_)
           rintro e w3 ⟨rfl, hs, hu⟩
           replace P_q := Aside0.mk hs
           replace P_m := Aside0.mk (Rq.upd (by exact P_m.out.updN lu) hu (by exact fun k h1 h2 => (HS3.out k h1.1).2 h2))
           replace HWS := Aside0.mk (Nat.le_trans HWS.out (Nat.le_trans ((by exact lu) : Upd None0 wS _).size hu.size))
           replace HU := Aside0.mk (((by exact ul HU) : Upd None0 w _).trans hu (fun k hk => .inr (HS1.out k hk).1))
           obtain ⟨hgm, vf, hbm, hrm⟩ := P_m.out
           have B_m := Aside0.mk hbm
           have R_m := Aside0.mk hrm
           have HGM := Aside0.mk hgm
           (try clear hd0 hd1)
           clear hs hu hbm hrm hgm P_m)
        | ((with_reducible refine gate_store (t := 9) (p := 52) (v := .const (.string ByteArray.empty)) rfl ?_)
           refine cellput rfl 9 (.tmp 52) (.const (.string ByteArray.empty)) rfl rfl gm 2 (.string ByteArray.empty) rfl rfl 39 #[.slice A l.length c, vf, .string (strOfNums came), .bool bg] #[.slice A l.length c, vf, .string ByteArray.empty, .bool bg] (by exact bl B_m) (by kernel_rfl) (by simp) rfl rfl ?_
           intro wC hbox hu
           replace R_m := Aside0.mk (row_updT (by exact rl R_m) (by exact bl B_m) (by decide) hu)
           replace P_q := Aside0.mk (Qs.upd (by exact P_q.out.updN lu) hu (fun k h1 h2 => (HS3.out gm HGM.out.1).2 (h2 ▸ h1)))
           replace HU := Aside0.mk (((by exact ul HU) : Upd None0 w _).trans hu (fun k hk => .inr (by rw [hk]; exact (HS3.out gm HGM.out.1).1)))
           replace HWS := Aside0.mk (Nat.le_trans HWS.out (Nat.le_trans ((by exact lu) : Upd None0 w3 _).size hu.size))
           clear B_m; have B_m := Aside0.mk hbox
           clear hu hbox)
        | ((with_reducible refine gate_store (t := 4) (p := 54) (v := .const (.bool true)) rfl ?_)
           refine cellput rfl 4 (.tmp 54) (.const (.bool true)) rfl rfl gm 3 (.bool true) rfl rfl 39 #[.slice A l.length c, vf, .string ByteArray.empty, .bool bg] #[.slice A l.length c, vf, .string ByteArray.empty, .bool true] (by exact bl B_m) (by kernel_rfl) (by simp) rfl rfl ?_
           intro w4 hbox hu
           replace R_m := Aside0.mk (row_updT (by exact rl R_m) (by exact bl B_m) (by decide) hu)
           replace P_q := Aside0.mk (Qs.upd (by exact P_q.out.updN lu) hu (fun k h1 h2 => (HS3.out gm HGM.out.1).2 (h2 ▸ h1)))
           replace HU := Aside0.mk (((by exact ul HU) : Upd None0 w _).trans hu (fun k hk => .inr (by rw [hk]; exact (HS3.out gm HGM.out.1).1)))
           replace HWS := Aside0.mk (Nat.le_trans HWS.out (Nat.le_trans ((by exact lu) : Upd None0 wC _).size hu.size))
           clear B_m; have B_m := Aside0.mk hbox
           clear hu hbox
           have P_m := Aside0.mk (show Rq w4 _ gm A l.length c ans (strOfNums []) true from ⟨HGM.out, _, B_m.out, R_m.out⟩)
           obtain ⟨an2, cm2, bg2, S4, P_q, P_f, HS4, HI2, HLE⟩ := plays_pack (w := w) (i := i) P_q.out P_m.out (fun k h => HS3.out k h.1) ⟨fun x hx => by simp at hx, by simp, HLN.out⟩
           have HWB := HWS
           clear P_m)
        | (go_at_call 13
           (with_reducible refine (q_answersN gq _ _ _ _ _ _ (by exact P_q.out.updN lu) l.length HLE.out HLM.out).mono ?_)
           rintro e wq ⟨A_s, c_s, rfl, hr, hu⟩
           obtain ⟨S5, hr5, h5⟩ := got_set (wb := w4) ((by exact lu) : Upd None0 w4 _).size hr
           have R_s := Aside0.mk hr5
           have HS5 := Aside0.mk h5
           replace P_q := Aside0.mk (Qs.updN (by exact P_q.out.updN lu) hu)
           replace P_f := Aside0.mk (Rq.updN (by exact P_f.out.updN lu) hu)
           replace HU := Aside0.mk (((by exact ul HU) : Upd None0 w _).trans hu (fun _ h => h.elim))
           have HWQ := Aside0.mk (Nat.le_trans HWB.out (Nat.le_trans ((by exact lu) : Upd None0 w4 _).size hu.size))
           obtain ⟨hgm, vf, hbm, hrm⟩ := P_f.out
           obtain ⟨Af, cf, rfl⟩ := Kd.R_slice hrm
           have hm1 := co (⟨hbm⟩ : Aside0 _) 1 (.slice Af an2.length cf) rfl
           have R_f := Aside0.mk hrm
           (try clear hd0 hd1)
           clear hr hr5 h5 hu hbm hgm hrm)
        | (go_at_call 12
           (with_reducible refine (same_c A_s Af c_s cf an2 l.length an2.length HLE.out rfl _ (by exact rc (rl R_s)) (Kd.R_reads' R_s.out).2.1 (by exact rc (rl R_f)) (Kd.R_reads' R_f.out).2.1 (by rw [HLE.out]; exact HL3.out)).mono ?_)
           rintro e w7 ⟨rfl, hb⟩
           have UZ := Aside0.mk (Upd.trans (by exact lu) (Upd.of_below hb.below : Upd None0 _ _) (fun _ h => h.elim) : Upd None0 wq w7)
           clear hb hm1))
      replace HU := Aside0.mk (HU.out.trans UZ.out (fun _ h => h.elim))
      replace P_q := Aside0.mk (P_q.out.updN UZ.out)
      replace P_f := Aside0.mk (P_f.out.updN UZ.out)
      replace R_s := Aside0.mk (row_upd R_s.out UZ.out (fun k _ h => h))
      replace HWQ := Aside0.mk (Nat.le_trans HWQ.out UZ.out.size)
      clear UZ R_f
      go_loopg [100] l.length (fun gk v100 wy => ∃ (j : Nat) (ys : List S43), v100 = .int .i64 (j : Int) ∧ Aside0 (j ≤ l.length ∧ l.length - j ≤ gk ∧ ys.length = l.length) ∧ Aside0 (k43.R 43 wy 0 S5 (.slice A_s ys.length c_s) ys) ∧ Aside0 (Upd S5 w7 wy))
      case atStart => exact ⟨0, an2, rfl, ⟨Nat.zero_le _, by omega, HLE.out⟩, R_s, ⟨Upd.refl _ _⟩⟩
      case round =>
        clear R_s
        obtain ⟨j, ys, rfl, JI, R_s, UY⟩ := hrel
        have hj0 : (0 : Int) ≤ (j : Int) := by omega
        have hjm : (j : Int) ≤ 1000 := by have := JI.out.1; have := HL3.out; omega
        by_cases hlj : j < l.length
        case neg =>
          have hljd : decide ((j : Int) < (l.length : Int)) = false := decide_eq_false (by omega)
          go_wp2
          go_roundg (gko - 1)
          case measure => have := HI.out.2.1; omega
          case rel => exact ⟨i + 1, S4, an2, cm2, bg2, by simp, ⟨by omega, by have := HI.out.2.1; omega, HI2.out.1, HI2.out.2, HLE.out.symm⟩, ⟨P_q.out.upd UY.out (fun k h1 h2 => by have := (HS1.out k h1).2; have := HS5.out k h2; have := HWB.out; omega)⟩, ⟨P_f.out.upd UY.out (fun k h1 h2 => by have := (HS4.out k h1).2; have := HS5.out k h2; omega)⟩, ⟨fun k h => (HS4.out k h).1⟩, ⟨HU.out.trans UY.out (fun k hk => .inr (by have := HS5.out k hk; have := HWB.out; have := HWN0.out; omega)), Nat.le_trans HWQ.out UY.out.size⟩⟩
        have hljd : decide ((j : Int) < (l.length : Int)) = true := decide_eq_true (by omega)
        have hlji : (j : Int) < (l.length : Int) := by omega
        have hlys : (j : Int) < (ys.length : Int) := by have := JI.out.2.2; omega
        obtain ⟨ad, e2, hcA⟩ : ∃ ad, A_s = some ad ∧ True := by
          obtain ⟨ad, _, h, _⟩ := Kd.C_get (Kd.R_reads' R_s.out).2.2 z43 (j : Int) hj0 hlys
          exact ⟨ad, h, trivial⟩
        cases e2
        clear hcA
        obtain ⟨gs, rfl⟩ := Kd.R_head R_s.out
        obtain ⟨cc, hcl, hM, hcc⟩ := Kd.R_getA R_s.out z43 (j : Int) hj0 hlys
        have HCE := Aside0.mk (k43_openM hM)
        have HCC := Aside0.mk hcc
        have HCL := Aside0.mk hcl
        have RS0 := R_s
        clear hM hcc hcl
        go_wp2_with (first
          | ((refine gate_store (t := 43) (p := 106) (v := .tmp 105) rfl ?_)
             refine Kd.R_store k43 (w0 := wr) 0 rfl rfl 43 (.tmp 106) (.tmp 105) rfl 43 (j : Int) 0 ys ⟨true, ⟨#[120]⟩⟩ (.agg #[.bool true, .string ⟨#[120]⟩]) [.bool true, .string ⟨#[120]⟩] cc S5 (fun _ => False) rfl ?ho rfl rfl (by kernel_rfl) (by intro q hq; simp at hq; rcases hq with rfl | rfl <;> rfl) RS0.out hj0 hlys HCL.out (fun j u h => by have h2 := HCC.out j u h; rw [add_plain] at h2; (try rw [Nat.zero_add] at h2); exact h2) (Nat.le_of_eq rfl) ?hm (fun _ h => h.elim) (Below.refl _ _) ?_
             (case ho => rfl); (case hm => rw [HCE.out]; exact k43_mkM _ 0 _ ⟨true, ⟨#[120]⟩⟩)
             intro w1 hr _ hgr
             have U1 := Aside0.mk (UY.out.trans ((Upd.grown (S := fun k => some k = (Value.slice (some ⟨gs, 0, none⟩) ys.length c_s).ownBlock) hgr (fun k hk => by rw [← hk]; rfl)).mono (fun k hk => row_at RS0.out hk)) (fun k hk => .inl hk))
             have R1 := Aside0.mk hr
             clear hr hgr))
        go_roundg (gk - 1)
        case measure => have := JI.out.2; omega
        case rel => exact ⟨j + 1, ys.set ((j : Int)).toNat ⟨true, ⟨#[120]⟩⟩, by simp, ⟨by omega, by have := JI.out.2; omega, by rw [List.length_set]; exact JI.out.2.2⟩, ⟨by rw [List.length_set]; exact R1.out⟩, U1⟩
    have y3 : (kd == 1) = false := beq_eq_false_iff_ne.2 hk1
    by_cases hk2 : kd = 2
    · subst hk2
      go_wp2_with (first
        | ((with_reducible refine gate_dst (N := 9) rfl ?_)
           refine boxnew ?hg (N := 9) ?hd (cs := #[.int .i64 0, .string ByteArray.empty]) (t := 37) ?hr ?_; (case hd => rfl); (case hg => rfl); (case hr => first | (go_simp; done) | (go_simp; rfl))
           intro ga hge wA hbox hu
           have HGA := Aside0.mk (Nat.le_trans (lu : Upd None0 wr _).size hge)
           have HGW := Aside0.mk (Nat.le_trans (Nat.le_trans HU.out.size (lu : Upd None0 wr _).size) hge)
           replace P_q := Aside0.mk (Qs.updN (by exact P_q.out.updN lu) hu)
           replace P_m := Aside0.mk (Rq.updN (by exact P_m.out.updN lu) hu)
           replace HU := Aside0.mk (((by exact ul HU) : Upd None0 w _).trans hu (fun _ h => h.elim))
           have B_a := Aside0.mk hbox
           clear hu hbox hge)
        | ((with_reducible refine gate_store (t := 37) (p := 9) (v := .tmp 42) rfl ?_)
           refine rowput rfl 37 (.tmp 9) (.tmp 42) rfl rfl ga #[.int .i64 2, .string tx] rfl rfl 37 #[.int .i64 0, .string ByteArray.empty] (by exact bl B_a) (by kernel_rfl) rfl (by simp [Value.oneCell']) ?_
           intro wS hbox hu
           replace P_q := Aside0.mk (Qs.upd (by exact P_q.out.updN lu) hu (fun k h1 h2 => by have := (HS1.out k h1).2; have := HGA.out; have := HWR.out; omega))
           replace P_m := Aside0.mk (Rq.upd (by exact P_m.out.updN lu) hu (fun k h1 h2 => by have := h1.2; have := HGA.out; omega))
           replace HU := Aside0.mk (((by exact ul HU) : Upd None0 w _).trans hu (fun k hk => .inr (by rw [hk]; exact HGW.out)))
           clear B_a; have B_a := Aside0.mk hbox
           have HWS := Aside0.mk (Nat.le_trans HWR.out (Nat.le_trans HGA.out (Nat.le_of_lt (blk_lt hbox))))
           have hd0 := co B_a 0 (.int .i64 2) rfl
           have hd1 := co B_a 1 (.string tx) rfl
           clear hu hbox))
      go_loopg [60] tx.size (fun gk v60 wy => ∃ (m : Nat), v60 = .int .i64 (m : Int) ∧ Aside0 (m ≤ tx.size ∧ tx.size - m ≤ gk) ∧ Aside0 (Qs wy S1 gq l ans (came ++ (bytesOf tx).take m) bg) ∧ Aside0 (Upd S1 wS wy))
      case atStart => exact ⟨0, rfl, ⟨Nat.zero_le _, by omega⟩, ⟨by simpa using P_q.out⟩, ⟨Upd.refl _ _⟩⟩
      case round =>
        (try clear hd0 hd1)
        clear P_q
        obtain ⟨m, rfl, MI, P_q, UY⟩ := hrel
        have hm0 : (0 : Int) ≤ (m : Int) := by omega
        have hmm : (m : Int) ≤ 100 := by have := MI.out.1; have := HTX.out; omega
        have HAS := Aside0.mk (show ¬ S1 ga from fun h => by have := (HS1.out _ h).2; have := HGA.out; have := HWR.out; omega)
        have B_y := Aside0.mk (UY.out.blk B_a.out HAS.out)
        have hd1 := co B_y 1 (.string tx) rfl
        by_cases hlm : m < tx.size
        · have hlmd : decide ((m : Int) < (tx.size : Int)) = true := decide_eq_true (by omega)
          have hlmi : (m : Int) < (tx.size : Int) := by omega
          obtain ⟨b, hb⟩ : ∃ q, bt tx (m : Int) = q := ⟨_, rfl⟩
          have hbx : ∀ h : m < tx.size, (((tx[m]'h).toNat : Nat) : Int) = b := by rw [← hb]; exact bt_at tx (m : Int)
          have HTK := Aside0.mk (take_next tx m hlm)
          rw [hb] at HTK
          clear hb
          go_wp2_with (first
            | (go_at_call 16
               (with_reducible refine (q_push gq _ _ _ _ _ _ P_q.out b).mono ?_)
               rintro e wq ⟨rfl, hs, hu⟩
               replace UY := Aside0.mk (UY.out.trans hu (fun k hk => .inl hk))
               clear P_q hu; have P_q := Aside0.mk hs; clear hs))
          go_roundg (gk - 1)
          case measure => have := MI.out.2; omega
          case rel => exact ⟨m + 1, by simp, ⟨by omega, by have := MI.out.2; omega⟩, ⟨by rw [HTK.out, ← List.append_assoc]; exact P_q.out⟩, UY⟩
        have hlmd : decide ((m : Int) < (tx.size : Int)) = false := decide_eq_false (by omega)
        have htk : (bytesOf tx).take m = bytesOf tx := List.take_of_length_le (by rw [bytesOf_length]; omega)
        rw [htk] at P_q
        replace HU := Aside0.mk (HU.out.trans UY.out (fun k hk => .inr (HS1.out k hk).1))
        replace HWS := Aside0.mk (Nat.le_trans HWS.out UY.out.size)
        replace P_m := Aside0.mk (P_m.out.upd UY.out (fun k h1 h2 => (HS3.out k h1.1).2 h2))
        obtain ⟨hgm, vf, hbm, hrm⟩ := P_m.out
        have B_m := Aside0.mk hbm
        have R_m := Aside0.mk hrm
        have HGM := Aside0.mk hgm
        have hm2 := co B_m 2 (.string (strOfNums came)) rfl
        have hcs : (strOfNums came).size ≤ 20000 := by rw [nums_size came HBY.out]; exact HCL.out
        have hts : tx.size ≤ 100 := HTX.out
        have HNA := Aside0.mk (nums_append came tx HBY.out)
        have HBY2 := Aside0.mk (show Bs.Bytes (came ++ bytesOf tx) from fun x hx => (List.mem_append.1 hx).elim (HBY.out x) (Bs.bytes_of tx x))
        have HCL2 := Aside0.mk (show (came ++ bytesOf tx).length ≤ (i + 1) * 100 by have := HI.out.2.2.2.1; rw [List.length_append, bytesOf_length]; omega)
        have hfz : wr.frozen? ⟨gm, 2, none⟩ = false := blk_frozen hbm 2
        clear hgm hbm hrm htk P_m UY
        go_wp2
        (try simp only [Act.put, List.setIfInBounds_toArray, List.set_cons_zero, List.set_cons_succ])
        go_region
        obtain ⟨w4, hw4⟩ : ∃ q, (wr.setCell ⟨gm, 2, none⟩ (.string (strOfNums came ++ tx))).drew = q := ⟨_, rfl⟩
        rw [hw4]
        have hu : Upd (fun k => k = gm) wr w4 := by rw [← hw4]; exact ((Upd.refl (fun k => k = gm) wr).setCell (.inl rfl) _).drew
        have hbox : w4.heap[gm]? = some (.cells #[.slice A l.length c, vf, .string (strOfNums came ++ tx), .bool bg] 39 (0, 0)) := by rw [← hw4]; exact blk_set B_m.out 2 _
        replace P_q := Aside0.mk (P_q.out.upd hu (fun k h1 h2 => (HS3.out gm HGM.out.1).2 (h2 ▸ h1)))
        replace R_m := Aside0.mk (row_updT R_m.out B_m.out (by decide) hu)
        replace HU := Aside0.mk (HU.out.trans hu (fun k hk => .inr (by rw [hk]; exact (HS3.out gm HGM.out.1).1)))
        have HWB := Aside0.mk (Nat.le_trans HWS.out hu.size)
        have P_m := Aside0.mk (show Rq w4 _ gm A l.length c ans (strOfNums (came ++ bytesOf tx)) bg from ⟨HGM.out, _, by rw [HNA.out]; exact hbox, R_m.out⟩)
        obtain ⟨an2, cm2, bg2, S4, P_q, P_f, HS4, HI2, HLE⟩ := plays_pack (w := w) (i := i) P_q.out P_m.out (fun k h => HS3.out k h.1) ⟨HBY2.out, HCL2.out, HLN.out⟩
        clear hw4 hu hbox hm2 hfz hcs hts B_m R_m P_m HGM
        (try clear hd1)
        go_wp2_with (first
          | (go_at_call 13
             (with_reducible refine (q_answersN gq _ _ _ _ _ _ (by exact P_q.out.updN lu) l.length HLE.out HLM.out).mono ?_)
             rintro e wq ⟨A_s, c_s, rfl, hr, hu⟩
             obtain ⟨S5, hr5, h5⟩ := got_set (wb := w4) ((by exact lu) : Upd None0 w4 _).size hr
             have R_s := Aside0.mk hr5
             have HS5 := Aside0.mk h5
             replace P_q := Aside0.mk (Qs.updN (by exact P_q.out.updN lu) hu)
             replace P_f := Aside0.mk (Rq.updN (by exact P_f.out.updN lu) hu)
             replace HU := Aside0.mk (((by exact ul HU) : Upd None0 w _).trans hu (fun _ h => h.elim))
             have HWQ := Aside0.mk (Nat.le_trans HWB.out (Nat.le_trans ((by exact lu) : Upd None0 w4 _).size hu.size))
             obtain ⟨hgm, vf, hbm, hrm⟩ := P_f.out
             obtain ⟨Af, cf, rfl⟩ := Kd.R_slice hrm
             have hm1 := co (⟨hbm⟩ : Aside0 _) 1 (.slice Af an2.length cf) rfl
             have R_f := Aside0.mk hrm
             (try clear hd0 hd1)
             clear hr hr5 h5 hu hbm hgm hrm)
          | (go_at_call 12
             (with_reducible refine (same_c A_s Af c_s cf an2 l.length an2.length HLE.out rfl _ (by exact rc (rl R_s)) (Kd.R_reads' R_s.out).2.1 (by exact rc (rl R_f)) (Kd.R_reads' R_f.out).2.1 (by rw [HLE.out]; exact HL3.out)).mono ?_)
             rintro e w7 ⟨rfl, hb⟩
             have UZ := Aside0.mk (Upd.trans (by exact lu) (Upd.of_below hb.below : Upd None0 _ _) (fun _ h => h.elim) : Upd None0 wq w7)
             clear hb hm1))
        replace HU := Aside0.mk (HU.out.trans UZ.out (fun _ h => h.elim))
        replace P_q := Aside0.mk (P_q.out.updN UZ.out)
        replace P_f := Aside0.mk (P_f.out.updN UZ.out)
        replace R_s := Aside0.mk (row_upd R_s.out UZ.out (fun k _ h => h))
        replace HWQ := Aside0.mk (Nat.le_trans HWQ.out UZ.out.size)
        clear UZ R_f
        go_loopg [100] l.length (fun gk v100 wy => ∃ (j : Nat) (ys : List S43), v100 = .int .i64 (j : Int) ∧ Aside0 (j ≤ l.length ∧ l.length - j ≤ gk ∧ ys.length = l.length) ∧ Aside0 (k43.R 43 wy 0 S5 (.slice A_s ys.length c_s) ys) ∧ Aside0 (Upd S5 w7 wy))
        case atStart => exact ⟨0, an2, rfl, ⟨Nat.zero_le _, by omega, HLE.out⟩, R_s, ⟨Upd.refl _ _⟩⟩
        case round =>
          clear R_s
          obtain ⟨j, ys, rfl, JI, R_s, UY⟩ := hrel
          have hj0 : (0 : Int) ≤ (j : Int) := by omega
          have hjm : (j : Int) ≤ 1000 := by have := JI.out.1; have := HL3.out; omega
          by_cases hlj : j < l.length
          case neg =>
            have hljd : decide ((j : Int) < (l.length : Int)) = false := decide_eq_false (by omega)
            go_wp2
            go_roundg (gko - 1)
            case measure => have := HI.out.2.1; omega
            case rel => exact ⟨i + 1, S4, an2, cm2, bg2, by simp, ⟨by omega, by have := HI.out.2.1; omega, HI2.out.1, HI2.out.2, HLE.out.symm⟩, ⟨P_q.out.upd UY.out (fun k h1 h2 => by have := (HS1.out k h1).2; have := HS5.out k h2; have := HWB.out; omega)⟩, ⟨P_f.out.upd UY.out (fun k h1 h2 => by have := (HS4.out k h1).2; have := HS5.out k h2; omega)⟩, ⟨fun k h => (HS4.out k h).1⟩, ⟨HU.out.trans UY.out (fun k hk => .inr (by have := HS5.out k hk; have := HWB.out; have := HWN0.out; omega)), Nat.le_trans HWQ.out UY.out.size⟩⟩
          have hljd : decide ((j : Int) < (l.length : Int)) = true := decide_eq_true (by omega)
          have hlji : (j : Int) < (l.length : Int) := by omega
          have hlys : (j : Int) < (ys.length : Int) := by have := JI.out.2.2; omega
          obtain ⟨ad, e2, hcA⟩ : ∃ ad, A_s = some ad ∧ True := by
            obtain ⟨ad, _, h, _⟩ := Kd.C_get (Kd.R_reads' R_s.out).2.2 z43 (j : Int) hj0 hlys
            exact ⟨ad, h, trivial⟩
          cases e2
          clear hcA
          obtain ⟨gs, rfl⟩ := Kd.R_head R_s.out
          obtain ⟨cc, hcl, hM, hcc⟩ := Kd.R_getA R_s.out z43 (j : Int) hj0 hlys
          have HCE := Aside0.mk (k43_openM hM)
          have HCC := Aside0.mk hcc
          have HCL := Aside0.mk hcl
          have RS0 := R_s
          clear hM hcc hcl
          go_wp2_with (first
            | ((refine gate_store (t := 43) (p := 106) (v := .tmp 105) rfl ?_)
               refine Kd.R_store k43 (w0 := wr) 0 rfl rfl 43 (.tmp 106) (.tmp 105) rfl 43 (j : Int) 0 ys ⟨true, ⟨#[120]⟩⟩ (.agg #[.bool true, .string ⟨#[120]⟩]) [.bool true, .string ⟨#[120]⟩] cc S5 (fun _ => False) rfl ?ho rfl rfl (by kernel_rfl) (by intro q hq; simp at hq; rcases hq with rfl | rfl <;> rfl) RS0.out hj0 hlys HCL.out (fun j u h => by have h2 := HCC.out j u h; rw [add_plain] at h2; (try rw [Nat.zero_add] at h2); exact h2) (Nat.le_of_eq rfl) ?hm (fun _ h => h.elim) (Below.refl _ _) ?_
               (case ho => rfl); (case hm => rw [HCE.out]; exact k43_mkM _ 0 _ ⟨true, ⟨#[120]⟩⟩)
               intro w1 hr _ hgr
               have U1 := Aside0.mk (UY.out.trans ((Upd.grown (S := fun k => some k = (Value.slice (some ⟨gs, 0, none⟩) ys.length c_s).ownBlock) hgr (fun k hk => by rw [← hk]; rfl)).mono (fun k hk => row_at RS0.out hk)) (fun k hk => .inl hk))
               have R1 := Aside0.mk hr
               clear hr hgr))
          go_roundg (gk - 1)
          case measure => have := JI.out.2; omega
          case rel => exact ⟨j + 1, ys.set ((j : Int)).toNat ⟨true, ⟨#[120]⟩⟩, by simp, ⟨by omega, by have := JI.out.2; omega, by rw [List.length_set]; exact JI.out.2.2⟩, ⟨by rw [List.length_set]; exact R1.out⟩, U1⟩
    have y4 : (kd == 2) = false := beq_eq_false_iff_ne.2 hk2
    by_cases hk3 : kd = 3
    · subst hk3
      go_wp2_with (first
        | ((with_reducible refine gate_dst (N := 9) rfl ?_)
           refine boxnew ?hg (N := 9) ?hd (cs := #[.int .i64 0, .string ByteArray.empty]) (t := 37) ?hr ?_; (case hd => rfl); (case hg => rfl); (case hr => first | (go_simp; done) | (go_simp; rfl))
           intro ga hge wA hbox hu
           have HGA := Aside0.mk (Nat.le_trans (lu : Upd None0 wr _).size hge)
           have HGW := Aside0.mk (Nat.le_trans (Nat.le_trans HU.out.size (lu : Upd None0 wr _).size) hge)
           replace P_q := Aside0.mk (Qs.updN (by exact P_q.out.updN lu) hu)
           replace P_m := Aside0.mk (Rq.updN (by exact P_m.out.updN lu) hu)
           replace HU := Aside0.mk (((by exact ul HU) : Upd None0 w _).trans hu (fun _ h => h.elim))
           have B_a := Aside0.mk hbox
           clear hu hbox hge)
        | ((with_reducible refine gate_store (t := 37) (p := 9) (v := .tmp 42) rfl ?_)
           refine rowput rfl 37 (.tmp 9) (.tmp 42) rfl rfl ga #[.int .i64 3, .string tx] rfl rfl 37 #[.int .i64 0, .string ByteArray.empty] (by exact bl B_a) (by kernel_rfl) rfl (by simp [Value.oneCell']) ?_
           intro wS hbox hu
           replace P_q := Aside0.mk (Qs.upd (by exact P_q.out.updN lu) hu (fun k h1 h2 => by have := (HS1.out k h1).2; have := HGA.out; have := HWR.out; omega))
           replace P_m := Aside0.mk (Rq.upd (by exact P_m.out.updN lu) hu (fun k h1 h2 => by have := h1.2; have := HGA.out; omega))
           replace HU := Aside0.mk (((by exact ul HU) : Upd None0 w _).trans hu (fun k hk => .inr (by rw [hk]; exact HGW.out)))
           clear B_a; have B_a := Aside0.mk hbox
           have HWS := Aside0.mk (Nat.le_trans HWR.out (Nat.le_trans HGA.out (Nat.le_of_lt (blk_lt hbox))))
           have hd0 := co B_a 0 (.int .i64 3) rfl
           have hd1 := co B_a 1 (.string tx) rfl
           clear hu hbox)
        | (go_at_call 17
           (with_reducible refine (q_dateD gq _ _ _ _ _ _ (by exact P_q.out.updN lu) tx HLN.out HLM.out).mono ?_)
           rintro e w3 ⟨rfl, hs, hu, -⟩
           replace P_q := Aside0.mk hs
           replace P_m := Aside0.mk (Rq.upd (by exact P_m.out.updN lu) hu (by exact fun k h1 h2 => (HS3.out k h1.1).2 h2))
           replace HWS := Aside0.mk (Nat.le_trans HWS.out (Nat.le_trans ((by exact lu) : Upd None0 wS _).size hu.size))
           replace B_a := Aside0.mk (hu.blk (bl B_a) (fun h => by have := (HS1.out _ h).2; have := HGA.out; have := HWR.out; omega))
           replace HU := Aside0.mk (((by exact ul HU) : Upd None0 w _).trans hu (fun k hk => .inr (HS1.out k hk).1))
           (try clear hd0 hd1)
           have hd1 := co B_a 1 (.string tx) rfl
           clear hs hu)
        | (go_at_call 18
           (with_reducible refine (ref_date A c l gm ans (strOfNums came) tx bg _ _ (by exact P_m.out.updN lu) (by exact cw HC (ul HU)) HLN.out HL3.out).mono ?_)
           rintro e w4 ⟨rfl, hs, hu⟩
           rw [← qd_dateR l ans came bg tx HBY.out H20.out HLN.out] at hs
           obtain ⟨S6, hs6, hS6⟩ := rq_date_set (S1 := S1) (w0 := w) (wn := wn) hs (fun k h => HS3.out k h.1) (fun k h => (HS1.out k h).2) HWN0.out (Nat.le_trans HWS.out ((by exact lu) : Upd None0 w3 _).size)
           replace P_q := Aside0.mk (Qs.upd (by exact P_q.out.updN lu) hu (by exact fun k h1 h2 => (HS3.out k h2.1).2 h1))
           have HWB := Aside0.mk (Nat.le_trans HWS.out (Nat.le_trans ((by exact lu) : Upd None0 w3 _).size hu.size))
           replace HU := Aside0.mk (((by exact ul HU) : Upd None0 w _).trans hu (by exact fun k hk => .inr (HS3.out k hk.1).1))
           obtain ⟨an2, cm2, bg2, S4, P_q, P_f, HS4, HI2, HLE⟩ := plays_pack (w := w) (i := i) P_q.out hs6 hS6 ⟨HBY.out, by have := HI.out.2.2.2.1; omega, (qd_len _ _ _ _ _ HLN.out)⟩
           (try clear hd1)
           clear hs hu hs6 hS6 P_m)
        | (go_at_call 13
           (with_reducible refine (q_answersN gq _ _ _ _ _ _ (by exact P_q.out.updN lu) l.length HLE.out HLM.out).mono ?_)
           rintro e wq ⟨A_s, c_s, rfl, hr, hu⟩
           obtain ⟨S5, hr5, h5⟩ := got_set (wb := w4) ((by exact lu) : Upd None0 w4 _).size hr
           have R_s := Aside0.mk hr5
           have HS5 := Aside0.mk h5
           replace P_q := Aside0.mk (Qs.updN (by exact P_q.out.updN lu) hu)
           replace P_f := Aside0.mk (Rq.updN (by exact P_f.out.updN lu) hu)
           replace HU := Aside0.mk (((by exact ul HU) : Upd None0 w _).trans hu (fun _ h => h.elim))
           have HWQ := Aside0.mk (Nat.le_trans HWB.out (Nat.le_trans ((by exact lu) : Upd None0 w4 _).size hu.size))
           obtain ⟨hgm, vf, hbm, hrm⟩ := P_f.out
           obtain ⟨Af, cf, rfl⟩ := Kd.R_slice hrm
           have hm1 := co (⟨hbm⟩ : Aside0 _) 1 (.slice Af an2.length cf) rfl
           have R_f := Aside0.mk hrm
           (try clear hd0 hd1)
           clear hr hr5 h5 hu hbm hgm hrm)
        | (go_at_call 12
           (with_reducible refine (same_c A_s Af c_s cf an2 l.length an2.length HLE.out rfl _ (by exact rc (rl R_s)) (Kd.R_reads' R_s.out).2.1 (by exact rc (rl R_f)) (Kd.R_reads' R_f.out).2.1 (by rw [HLE.out]; exact HL3.out)).mono ?_)
           rintro e w7 ⟨rfl, hb⟩
           have UZ := Aside0.mk (Upd.trans (by exact lu) (Upd.of_below hb.below : Upd None0 _ _) (fun _ h => h.elim) : Upd None0 wq w7)
           clear hb hm1))
      replace HU := Aside0.mk (HU.out.trans UZ.out (fun _ h => h.elim))
      replace P_q := Aside0.mk (P_q.out.updN UZ.out)
      replace P_f := Aside0.mk (P_f.out.updN UZ.out)
      replace R_s := Aside0.mk (row_upd R_s.out UZ.out (fun k _ h => h))
      replace HWQ := Aside0.mk (Nat.le_trans HWQ.out UZ.out.size)
      clear UZ R_f
      go_loopg [100] l.length (fun gk v100 wy => ∃ (j : Nat) (ys : List S43), v100 = .int .i64 (j : Int) ∧ Aside0 (j ≤ l.length ∧ l.length - j ≤ gk ∧ ys.length = l.length) ∧ Aside0 (k43.R 43 wy 0 S5 (.slice A_s ys.length c_s) ys) ∧ Aside0 (Upd S5 w7 wy))
      case atStart => exact ⟨0, an2, rfl, ⟨Nat.zero_le _, by omega, HLE.out⟩, R_s, ⟨Upd.refl _ _⟩⟩
      case round =>
        clear R_s
        obtain ⟨j, ys, rfl, JI, R_s, UY⟩ := hrel
        have hj0 : (0 : Int) ≤ (j : Int) := by omega
        have hjm : (j : Int) ≤ 1000 := by have := JI.out.1; have := HL3.out; omega
        by_cases hlj : j < l.length
        case neg =>
          have hljd : decide ((j : Int) < (l.length : Int)) = false := decide_eq_false (by omega)
          go_wp2
          go_roundg (gko - 1)
          case measure => have := HI.out.2.1; omega
          case rel => exact ⟨i + 1, S4, an2, cm2, bg2, by simp, ⟨by omega, by have := HI.out.2.1; omega, HI2.out.1, HI2.out.2, HLE.out.symm⟩, ⟨P_q.out.upd UY.out (fun k h1 h2 => by have := (HS1.out k h1).2; have := HS5.out k h2; have := HWB.out; omega)⟩, ⟨P_f.out.upd UY.out (fun k h1 h2 => by have := (HS4.out k h1).2; have := HS5.out k h2; omega)⟩, ⟨fun k h => (HS4.out k h).1⟩, ⟨HU.out.trans UY.out (fun k hk => .inr (by have := HS5.out k hk; have := HWB.out; have := HWN0.out; omega)), Nat.le_trans HWQ.out UY.out.size⟩⟩
        have hljd : decide ((j : Int) < (l.length : Int)) = true := decide_eq_true (by omega)
        have hlji : (j : Int) < (l.length : Int) := by omega
        have hlys : (j : Int) < (ys.length : Int) := by have := JI.out.2.2; omega
        obtain ⟨ad, e2, hcA⟩ : ∃ ad, A_s = some ad ∧ True := by
          obtain ⟨ad, _, h, _⟩ := Kd.C_get (Kd.R_reads' R_s.out).2.2 z43 (j : Int) hj0 hlys
          exact ⟨ad, h, trivial⟩
        cases e2
        clear hcA
        obtain ⟨gs, rfl⟩ := Kd.R_head R_s.out
        obtain ⟨cc, hcl, hM, hcc⟩ := Kd.R_getA R_s.out z43 (j : Int) hj0 hlys
        have HCE := Aside0.mk (k43_openM hM)
        have HCC := Aside0.mk hcc
        have HCL := Aside0.mk hcl
        have RS0 := R_s
        clear hM hcc hcl
        go_wp2_with (first
          | ((refine gate_store (t := 43) (p := 106) (v := .tmp 105) rfl ?_)
             refine Kd.R_store k43 (w0 := wr) 0 rfl rfl 43 (.tmp 106) (.tmp 105) rfl 43 (j : Int) 0 ys ⟨true, ⟨#[120]⟩⟩ (.agg #[.bool true, .string ⟨#[120]⟩]) [.bool true, .string ⟨#[120]⟩] cc S5 (fun _ => False) rfl ?ho rfl rfl (by kernel_rfl) (by intro q hq; simp at hq; rcases hq with rfl | rfl <;> rfl) RS0.out hj0 hlys HCL.out (fun j u h => by have h2 := HCC.out j u h; rw [add_plain] at h2; (try rw [Nat.zero_add] at h2); exact h2) (Nat.le_of_eq rfl) ?hm (fun _ h => h.elim) (Below.refl _ _) ?_
             (case ho => rfl); (case hm => rw [HCE.out]; exact k43_mkM _ 0 _ ⟨true, ⟨#[120]⟩⟩)
             intro w1 hr _ hgr
             have U1 := Aside0.mk (UY.out.trans ((Upd.grown (S := fun k => some k = (Value.slice (some ⟨gs, 0, none⟩) ys.length c_s).ownBlock) hgr (fun k hk => by rw [← hk]; rfl)).mono (fun k hk => row_at RS0.out hk)) (fun k hk => .inl hk))
             have R1 := Aside0.mk hr
             clear hr hgr))
        go_roundg (gk - 1)
        case measure => have := JI.out.2; omega
        case rel => exact ⟨j + 1, ys.set ((j : Int)).toNat ⟨true, ⟨#[120]⟩⟩, by simp, ⟨by omega, by have := JI.out.2; omega, by rw [List.length_set]; exact JI.out.2.2⟩, ⟨by rw [List.length_set]; exact R1.out⟩, U1⟩
    · have y5 : (kd == 3) = false := beq_eq_false_iff_ne.2 hk3
      clear hk1 hk2 hk3
      go_wp2_with (first
        | ((with_reducible refine gate_dst (N := 9) rfl ?_)
           refine boxnew ?hg (N := 9) ?hd (cs := #[.int .i64 0, .string ByteArray.empty]) (t := 37) ?hr ?_; (case hd => rfl); (case hg => rfl); (case hr => first | (go_simp; done) | (go_simp; rfl))
           intro ga hge wA hbox hu
           have HGA := Aside0.mk (Nat.le_trans (lu : Upd None0 wr _).size hge)
           have HGW := Aside0.mk (Nat.le_trans (Nat.le_trans HU.out.size (lu : Upd None0 wr _).size) hge)
           replace P_q := Aside0.mk (Qs.updN (by exact P_q.out.updN lu) hu)
           replace P_m := Aside0.mk (Rq.updN (by exact P_m.out.updN lu) hu)
           replace HU := Aside0.mk (((by exact ul HU) : Upd None0 w _).trans hu (fun _ h => h.elim))
           have B_a := Aside0.mk hbox
           clear hu hbox hge)
        | ((with_reducible refine gate_store (t := 37) (p := 9) (v := .tmp 42) rfl ?_)
           refine rowput rfl 37 (.tmp 9) (.tmp 42) rfl rfl ga #[.int .i64 kd, .string tx] rfl rfl 37 #[.int .i64 0, .string ByteArray.empty] (by exact bl B_a) (by kernel_rfl) rfl (by simp [Value.oneCell']) ?_
           intro wS hbox hu
           replace P_q := Aside0.mk (Qs.upd (by exact P_q.out.updN lu) hu (fun k h1 h2 => by have := (HS1.out k h1).2; have := HGA.out; have := HWR.out; omega))
           replace P_m := Aside0.mk (Rq.upd (by exact P_m.out.updN lu) hu (fun k h1 h2 => by have := h1.2; have := HGA.out; omega))
           replace HU := Aside0.mk (((by exact ul HU) : Upd None0 w _).trans hu (fun k hk => .inr (by rw [hk]; exact HGW.out)))
           clear B_a; have B_a := Aside0.mk hbox
           have HWS := Aside0.mk (Nat.le_trans HWR.out (Nat.le_trans HGA.out (Nat.le_of_lt (blk_lt hbox))))
           have hd0 := co B_a 0 (.int .i64 kd) rfl
           have hd1 := co B_a 1 (.string tx) rfl
           clear hu hbox
           obtain ⟨an2, cm2, bg2, S4, P_q, P_f, HS4, HI2, HLE⟩ := plays_pack (w := w) (i := i) P_q.out P_m.out (fun k h => HS3.out k h.1) ⟨HBY.out, by have := HI.out.2.2.2.1; omega, HLN.out⟩
           have HWB := HWS
           clear P_m)
        | (go_at_call 13
           (with_reducible refine (q_answersN gq _ _ _ _ _ _ (by exact P_q.out.updN lu) l.length HLE.out HLM.out).mono ?_)
           rintro e wq ⟨A_s, c_s, rfl, hr, hu⟩
           obtain ⟨S5, hr5, h5⟩ := got_set (wb := wS) ((by exact lu) : Upd None0 wS _).size hr
           have R_s := Aside0.mk hr5
           have HS5 := Aside0.mk h5
           replace P_q := Aside0.mk (Qs.updN (by exact P_q.out.updN lu) hu)
           replace P_f := Aside0.mk (Rq.updN (by exact P_f.out.updN lu) hu)
           replace HU := Aside0.mk (((by exact ul HU) : Upd None0 w _).trans hu (fun _ h => h.elim))
           have HWQ := Aside0.mk (Nat.le_trans HWB.out (Nat.le_trans ((by exact lu) : Upd None0 wS _).size hu.size))
           obtain ⟨hgm, vf, hbm, hrm⟩ := P_f.out
           obtain ⟨Af, cf, rfl⟩ := Kd.R_slice hrm
           have hm1 := co (⟨hbm⟩ : Aside0 _) 1 (.slice Af an2.length cf) rfl
           have R_f := Aside0.mk hrm
           (try clear hd0 hd1)
           clear hr hr5 h5 hu hbm hgm hrm)
        | (go_at_call 12
           (with_reducible refine (same_c A_s Af c_s cf an2 l.length an2.length HLE.out rfl _ (by exact rc (rl R_s)) (Kd.R_reads' R_s.out).2.1 (by exact rc (rl R_f)) (Kd.R_reads' R_f.out).2.1 (by rw [HLE.out]; exact HL3.out)).mono ?_)
           rintro e w7 ⟨rfl, hb⟩
           have UZ := Aside0.mk (Upd.trans (by exact lu) (Upd.of_below hb.below : Upd None0 _ _) (fun _ h => h.elim) : Upd None0 wq w7)
           clear hb hm1))
      replace HU := Aside0.mk (HU.out.trans UZ.out (fun _ h => h.elim))
      replace P_q := Aside0.mk (P_q.out.updN UZ.out)
      replace P_f := Aside0.mk (P_f.out.updN UZ.out)
      replace R_s := Aside0.mk (row_upd R_s.out UZ.out (fun k _ h => h))
      replace HWQ := Aside0.mk (Nat.le_trans HWQ.out UZ.out.size)
      clear UZ R_f
      go_loopg [100] l.length (fun gk v100 wy => ∃ (j : Nat) (ys : List S43), v100 = .int .i64 (j : Int) ∧ Aside0 (j ≤ l.length ∧ l.length - j ≤ gk ∧ ys.length = l.length) ∧ Aside0 (k43.R 43 wy 0 S5 (.slice A_s ys.length c_s) ys) ∧ Aside0 (Upd S5 w7 wy))
      case atStart => exact ⟨0, an2, rfl, ⟨Nat.zero_le _, by omega, HLE.out⟩, R_s, ⟨Upd.refl _ _⟩⟩
      case round =>
        clear R_s
        obtain ⟨j, ys, rfl, JI, R_s, UY⟩ := hrel
        have hj0 : (0 : Int) ≤ (j : Int) := by omega
        have hjm : (j : Int) ≤ 1000 := by have := JI.out.1; have := HL3.out; omega
        by_cases hlj : j < l.length
        case neg =>
          have hljd : decide ((j : Int) < (l.length : Int)) = false := decide_eq_false (by omega)
          go_wp2
          go_roundg (gko - 1)
          case measure => have := HI.out.2.1; omega
          case rel => exact ⟨i + 1, S4, an2, cm2, bg2, by simp, ⟨by omega, by have := HI.out.2.1; omega, HI2.out.1, HI2.out.2, HLE.out.symm⟩, ⟨P_q.out.upd UY.out (fun k h1 h2 => by have := (HS1.out k h1).2; have := HS5.out k h2; have := HWB.out; omega)⟩, ⟨P_f.out.upd UY.out (fun k h1 h2 => by have := (HS4.out k h1).2; have := HS5.out k h2; omega)⟩, ⟨fun k h => (HS4.out k h).1⟩, ⟨HU.out.trans UY.out (fun k hk => .inr (by have := HS5.out k hk; have := HWB.out; have := HWN0.out; omega)), Nat.le_trans HWQ.out UY.out.size⟩⟩
        have hljd : decide ((j : Int) < (l.length : Int)) = true := decide_eq_true (by omega)
        have hlji : (j : Int) < (l.length : Int) := by omega
        have hlys : (j : Int) < (ys.length : Int) := by have := JI.out.2.2; omega
        obtain ⟨ad, e2, hcA⟩ : ∃ ad, A_s = some ad ∧ True := by
          obtain ⟨ad, _, h, _⟩ := Kd.C_get (Kd.R_reads' R_s.out).2.2 z43 (j : Int) hj0 hlys
          exact ⟨ad, h, trivial⟩
        cases e2
        clear hcA
        obtain ⟨gs, rfl⟩ := Kd.R_head R_s.out
        obtain ⟨cc, hcl, hM, hcc⟩ := Kd.R_getA R_s.out z43 (j : Int) hj0 hlys
        have HCE := Aside0.mk (k43_openM hM)
        have HCC := Aside0.mk hcc
        have HCL := Aside0.mk hcl
        have RS0 := R_s
        clear hM hcc hcl
        go_wp2_with (first
          | ((refine gate_store (t := 43) (p := 106) (v := .tmp 105) rfl ?_)
             refine Kd.R_store k43 (w0 := wr) 0 rfl rfl 43 (.tmp 106) (.tmp 105) rfl 43 (j : Int) 0 ys ⟨true, ⟨#[120]⟩⟩ (.agg #[.bool true, .string ⟨#[120]⟩]) [.bool true, .string ⟨#[120]⟩] cc S5 (fun _ => False) rfl ?ho rfl rfl (by kernel_rfl) (by intro q hq; simp at hq; rcases hq with rfl | rfl <;> rfl) RS0.out hj0 hlys HCL.out (fun j u h => by have h2 := HCC.out j u h; rw [add_plain] at h2; (try rw [Nat.zero_add] at h2); exact h2) (Nat.le_of_eq rfl) ?hm (fun _ h => h.elim) (Below.refl _ _) ?_
             (case ho => rfl); (case hm => rw [HCE.out]; exact k43_mkM _ 0 _ ⟨true, ⟨#[120]⟩⟩)
             intro w1 hr _ hgr
             have U1 := Aside0.mk (UY.out.trans ((Upd.grown (S := fun k => some k = (Value.slice (some ⟨gs, 0, none⟩) ys.length c_s).ownBlock) hgr (fun k hk => by rw [← hk]; rfl)).mono (fun k hk => row_at RS0.out hk)) (fun k hk => .inl hk))
             have R1 := Aside0.mk hr
             clear hr hgr))
        go_roundg (gk - 1)
        case measure => have := JI.out.2; omega
        case rel => exact ⟨j + 1, ys.set ((j : Int)).toNat ⟨true, ⟨#[120]⟩⟩, by simp, ⟨by omega, by have := JI.out.2; omega, by rw [List.length_set]; exact JI.out.2.2⟩, ⟨by rw [List.length_set]; exact R1.out⟩, U1⟩

def gantletlaw18_QueryPlays.f (l : List ByteArray) (a : List S37) : Option Bool := some true
theorem gantletlaw18_QueryPlays.calls (A : Option Addr) (c : Nat) (l : List ByteArray) (B : Option Addr) (cb : Nat) (a : List S37) (r : Bool) (w : World) (hC : Kd.C Kd.string w A l.length l) (hc : l.length ≤ c) (hB : Kd.C k37 w B a.length a) (hbc : a.length ≤ cb) (h : gantletlaw18_QueryPlays.f l a = some r) :
    Calls Try.prog 4 #[.slice A l.length c, .slice B a.length cb] w fun e w' => e = .returned (.bool r) ∧ Below w.heap.size w w' := by
  unfold gantletlaw18_QueryPlays.f at h
  obtain rfl := Option.some.inj h
  exact (gantletlaw18_QueryPlays.any A c l B cb a w hC hc hB hbc).mono fun e w' ⟨h1, h2⟩ => ⟨h1, h2.below0⟩

end Go.Proofs.Ytidcmkmlcmjekaa.PA
