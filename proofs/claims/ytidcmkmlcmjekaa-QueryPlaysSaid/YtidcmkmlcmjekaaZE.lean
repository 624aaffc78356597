/- The law QueryAlike, walked by hand. -/
import Derived.Test.YtidcmkmlcmjekaaZF
import Derived.Test.YtidcmkmlcmjekaaPAx1
import Derived.Outline
import Derived.Lib.SliceRun
import Derived.Laws.Rows
import Derived.Laws.BytesArg
namespace Go.Proofs.Ytidcmkmlcmjekaa.PA
open Go.RowKit Go.Proofs.YtidcmkmlcmjekaaW.PrintWords Go.Proofs.YtidcmkmlcmjekaaW.PrintLast Go.Proofs.YtidcmkmlcmjekaaW.PrintMore Go.Proofs.Ytidcmkmlcmjekaa.Own
attribute [local go_sem] max2_int min2_int max_two min_two max_three min_three max_four min_four
set_option linter.unusedVariables false
set_option linter.unusedSimpArgs false
/-- What an act leaves: the answers, what came, whether there was a beginning. -/
def stA (L : List ByteArray) (ans : List S43) (came : List Int) (bg : Bool) (a : S37) : List S43 := if a.f0 = 3 then qd L ans came bg a.f1 else ans
def stC (came : List Int) (a : S37) : List Int := if a.f0 = 1 then [] else if a.f0 = 2 then came ++ bytesOf a.f1 else came
def stB (bg : Bool) (a : S37) : Bool := if a.f0 = 1 then true else bg
theorem qd_map (L : List ByteArray) (f : ByteArray → S43) (came : List Int) (bg : Bool) (d : ByteArray) : qd L (L.map f) came bg d = L.map (fun s => if bg = true ∧ came.length ≤ 20 then dateF (strOfNums came) d s (f s) else f s) := by
  unfold qd dateL
  split
  · apply List.ext_getElem?
    intro i
    rw [List.getElem?_zipWith, List.getElem?_map, List.getElem?_map]
    cases L[i]? <;> rfl
  · rfl
theorem qs_new_set {w1 wo : World} {g : Nat} {L : List ByteArray} {ans : List S43} {came : List Int} {bg : Bool} (h : Qs wo (New w1 None0) g L ans came bg) : ∃ S2 : Nat → Prop, Qs wo S2 g L ans came bg ∧ ∀ k, S2 k → w1.heap.size ≤ k ∧ k < wo.heap.size :=
  ⟨_, h.bnd, fun k h => ⟨h.1.elim (fun h => h.elim) id, h.2.1⟩⟩
/-- Between the two of an act. -/
def AlikeR (S1 S2 : Nat → Prop) (gq go : Nat) (LL : List ByteArray) (l0 : ByteArray) (aq ao : List S43) (came : List Int) (bg : Bool) (act : S37) (wl : World) (j : Nat) (W : World) : Prop :=
  (j = 0 → Qs W S1 gq LL aq came bg) ∧ (0 < j → Qs W S1 gq LL (stA LL aq came bg act) (stC came act) (stB bg act)) ∧ (j < 2 → Qs W S2 go [l0] ao came bg) ∧ (2 ≤ j → Qs W S2 go [l0] (stA [l0] ao came bg act) (stC came act) (stB bg act)) ∧ Upd (fun k => S1 k ∨ S2 k) wl W
theorem alike_step {S1 S2 : Nat → Prop} {gq go : Nat} {LL : List ByteArray} {l0 : ByteArray} {aq ao : List S43} {came : List Int} {bg : Bool} {act : S37} {wl W : World} {j : Nat} (h : AlikeR S1 S2 gq go LL l0 aq ao came bg act wl j W) (hj : j < 2) (hd : ∀ k, S1 k → ¬ S2 k) (hq : LL.length = aq.length) (ho : ([l0] : List ByteArray).length = ao.length) (hm : LL.length ≤ 64) :
    ∃ (gx : Nat) (Sx : Nat → Prop) (Lx : List ByteArray) (ax : List S43), (j = 0 → gx = gq) ∧ (j = 1 → gx = go) ∧ Qs W Sx gx Lx ax came bg ∧ Lx.length = ax.length ∧ Lx.length ≤ 100000 ∧ (∀ k, Sx k → S1 k ∨ S2 k) ∧
      ∀ W2, Qs W2 Sx gx Lx (stA Lx ax came bg act) (stC came act) (stB bg act) → Upd Sx W W2 → AlikeR S1 S2 gq go LL l0 aq ao came bg act wl (j + 1) W2 := by
  obtain ⟨h0, h1, h2, h3, h4⟩ := h
  by_cases hz : j = 0
  · subst hz
    exact ⟨gq, S1, LL, aq, fun _ => rfl, fun h => by omega, h0 rfl, hq, by omega, fun k h => .inl h, fun W2 hQ hu =>
      ⟨fun h => by omega, fun _ => hQ, fun _ => (h2 (by omega)).upd hu (fun k a b => hd k b a), fun h => by omega, h4.trans hu (fun k hk => .inl (.inl hk))⟩⟩
  · exact ⟨go, S2, [l0], ao, fun h => by omega, fun _ => rfl, h2 hj, ho, by simp, fun k h => .inr h, fun W2 hQ hu =>
      ⟨fun h => by omega, fun _ => (h1 (by omega)).upd hu (fun k a b => hd k a b), fun h => by omega, fun _ => hQ, h4.trans hu (fun k hk => .inl (.inr hk))⟩⟩
/-- The answers hang on the query's text alone. -/
theorem stA_map (L : List ByteArray) (f : ByteArray → S43) (came : List Int) (bg : Bool) (a : S37) : stA L (L.map f) came bg a = L.map (fun s => if a.f0 = 3 then (if bg = true ∧ came.length ≤ 20 then dateF (strOfNums came) a.f1 s (f s) else f s) else f s) := by
  unfold stA
  split
  · rw [qd_map]
  · rfl

attribute [local go_sem high] eqA43

set_option maxHeartbeats 16000000 in
set_option maxRecDepth 100000 in
theorem gantletlaw18_QueryAlike.any (A : Option Addr) (c : Nat) (l : List ByteArray) (B : Option Addr) (cb : Nat) (acts : List S37) (w : World) (hC : Kd.C Kd.string w A l.length l) (hc : l.length ≤ c) (hB : Kd.C k37 w B acts.length acts) (hbc : acts.length ≤ cb) :
    Calls Try.prog 7 #[.slice A l.length c, .slice B acts.length cb] w fun e w' => e = .returned (.bool true) ∧ Upd None0 w w' := by
  have HU := Aside0.mk (Upd.refl None0 w)
  have HC := Aside0.mk hC
  have HCC := Aside0.mk hc
  have HB := Aside0.mk hB
  have HBC := Aside0.mk hbc
  have hu_ := Try.underlying43
  have hu2_ := Try.underlying37
  obtain ⟨rg, hg, hgf⟩ := BNum.great_ok l acts 600 (by decide)
  have HG := Aside0.mk hg
  clear hC hc hg hB hbc
  cases rg with
  | true =>
    clear hgf
    go_enter Try.func7, Try.ntmps7
    go_wp2_with (first
      | (go_at_call 8
         (with_reducible refine (awake_any _).mono ?_)
         rintro e wq ⟨rfl, hu⟩
         replace HU := Aside0.mk (((by exact ul HU) : Upd None0 w _).trans hu (fun _ h => h.elim))
         clear hu)
      | (go_at_call 9
         (with_reducible refine (great_c A c l l.length rfl B cb acts acts.length rfl true _ (cw HC (by exact ul HU)) HCC.out (cw HB (by exact ul HU)) HBC.out HG.out).mono ?_)
         rintro e wq ⟨rfl, hb⟩
         replace HU := Aside0.mk (((by exact ul HU) : Upd None0 w _).trans (Upd.of_below hb : Upd None0 _ _) (fun _ h => h.elim))
         clear hb))
    go_ret
    exact ⟨rfl, HU.out⟩
  | false =>
  obtain ⟨hl, hla, hsz, hsa⟩ := hgf rfl
  have HSZ := Aside0.mk (show ∀ x, x ∈ l → x.size ≤ 1000 from fun x hx => Nat.le_trans (hsz x hx) (by decide))
  have HL3 := Aside0.mk (show l.length ≤ 1000 by omega)
  have HLM := Aside0.mk (show l.length ≤ 100000 by omega)
  have HLA := Aside0.mk (show (([] : List ByteArray).length + l.length) * 16 ≤ 140737488355328 by simp; omega)
  have HLB := Aside0.mk (show (l.length + l.length) * 16 ≤ 140737488355328 by omega)
  have HSA := Aside0.mk hsa
  have HLAC := Aside0.mk hla
  obtain ⟨ra, hra⟩ : ∃ r, (l.all BNum.R && decide (l.length ≤ 64)) = r := ⟨_, rfl⟩
  have HALL := Aside0.mk hra
  clear hgf hsz hsa hla
  cases ra with
  | false =>
    clear hra hl
    go_enter Try.func7, Try.ntmps7
    go_wp2_with (first
      | (go_at_call 8
         (with_reducible refine (awake_any _).mono ?_)
         rintro e wq ⟨rfl, hu⟩
         replace HU := Aside0.mk (((by exact ul HU) : Upd None0 w _).trans hu (fun _ h => h.elim))
         clear hu)
      | (go_at_call 9
         (with_reducible refine (great_c A c l l.length rfl B cb acts acts.length rfl false _ (cw HC (by exact ul HU)) HCC.out (cw HB (by exact ul HU)) HBC.out HG.out).mono ?_)
         rintro e wq ⟨rfl, hb⟩
         replace HU := Aside0.mk (((by exact ul HU) : Upd None0 w _).trans (Upd.of_below hb : Upd None0 _ _) (fun _ h => h.elim))
         clear hb)
      | (go_at_call 11
         (with_reducible refine (all_c A c l l.length rfl false _ (cw HC (by exact ul HU)) HCC.out HL3.out HALL.out).mono ?_)
         rintro e wq ⟨rfl, hb⟩
         replace HU := Aside0.mk (((by exact ul HU) : Upd None0 w _).trans (Upd.of_below hb.below : Upd None0 _ _) (fun _ h => h.elim))
         clear hb))
    go_ret
    exact ⟨by simp, HU.out⟩
  | true =>
  by_cases hz0 : l.length = 0
  · have y1 : ((l.length : Int) == 0) = true := by rw [hz0]; rfl
    clear hra hl hz0
    go_enter Try.func7, Try.ntmps7
    go_wp2_with (first
      | (go_at_call 8
         (with_reducible refine (awake_any _).mono ?_)
         rintro e wq ⟨rfl, hu⟩
         replace HU := Aside0.mk (((by exact ul HU) : Upd None0 w _).trans hu (fun _ h => h.elim))
         clear hu)
      | (go_at_call 9
         (with_reducible refine (great_c A c l l.length rfl B cb acts acts.length rfl false _ (cw HC (by exact ul HU)) HCC.out (cw HB (by exact ul HU)) HBC.out HG.out).mono ?_)
         rintro e wq ⟨rfl, hb⟩
         replace HU := Aside0.mk (((by exact ul HU) : Upd None0 w _).trans (Upd.of_below hb : Upd None0 _ _) (fun _ h => h.elim))
         clear hb)
      | (go_at_call 11
         (with_reducible refine (all_c A c l l.length rfl true _ (cw HC (by exact ul HU)) HCC.out HL3.out HALL.out).mono ?_)
         rintro e wq ⟨rfl, hb⟩
         replace HU := Aside0.mk (((by exact ul HU) : Upd None0 w _).trans (Upd.of_below hb.below : Upd None0 _ _) (fun _ h => h.elim))
         clear hb))
    go_ret
    exact ⟨by simp, HU.out⟩
  have y1 : ((l.length : Int) == 0) = false := by rw [beq_eq_false_iff_ne]; omega
  by_cases hz3 : 32 < l.length
  · have y2 : decide ((32 : Int) < (l.length : Int)) = true := decide_eq_true (by omega)
    clear hra hl hz0 hz3
    go_enter Try.func7, Try.ntmps7
    go_wp2_with (first
      | (go_at_call 8
         (with_reducible refine (awake_any _).mono ?_)
         rintro e wq ⟨rfl, hu⟩
         replace HU := Aside0.mk (((by exact ul HU) : Upd None0 w _).trans hu (fun _ h => h.elim))
         clear hu)
      | (go_at_call 9
         (with_reducible refine (great_c A c l l.length rfl B cb acts acts.length rfl false _ (cw HC (by exact ul HU)) HCC.out (cw HB (by exact ul HU)) HBC.out HG.out).mono ?_)
         rintro e wq ⟨rfl, hb⟩
         replace HU := Aside0.mk (((by exact ul HU) : Upd None0 w _).trans (Upd.of_below hb : Upd None0 _ _) (fun _ h => h.elim))
         clear hb)
      | (go_at_call 11
         (with_reducible refine (all_c A c l l.length rfl true _ (cw HC (by exact ul HU)) HCC.out HL3.out HALL.out).mono ?_)
         rintro e wq ⟨rfl, hb⟩
         replace HU := Aside0.mk (((by exact ul HU) : Upd None0 w _).trans (Upd.of_below hb.below : Upd None0 _ _) (fun _ h => h.elim))
         clear hb))
    go_ret
    exact ⟨by simp, HU.out⟩
  have y2 : decide ((32 : Int) < (l.length : Int)) = false := decide_eq_false (by omega)
  obtain ⟨l0, hl0⟩ : ∃ q, l[0]'(by omega) = q := ⟨_, rfl⟩
  have hm0 : l0 ∈ l := by rw [← hl0]; exact List.getElem_mem _
  have hpos : 0 < l.length := by omega
  have hrd0 : rdOf ByteArray.empty l 0 = l0 := by rw [← hl0]; simp [rdOf, hpos]
  simp only [Bool.and_eq_true, List.all_eq_true, decide_eq_true_eq] at hra
  have HALL2 := Aside0.mk (show ((l ++ l).all BNum.R && decide ((l ++ l).length ≤ 64)) = true by
    simp only [Bool.and_eq_true, List.all_eq_true, decide_eq_true_eq, List.mem_append, List.length_append]
    exact ⟨fun x hx => hra.1 x (hx.elim id id), by omega⟩)
  have HALL1 := Aside0.mk (show (([l0] : List ByteArray).all BNum.R && decide (([l0] : List ByteArray).length ≤ 64)) = true by simp [hra.1 l0 hm0])
  have HSZ2 := Aside0.mk (show ∀ x, x ∈ l ++ l → x.size ≤ 1000 from fun x hx => HSZ.out x ((List.mem_append.1 hx).elim id id))
  have HSZ1 := Aside0.mk (show ∀ x, x ∈ [l0] → x.size ≤ 1000 from fun x hx => by rw [List.mem_singleton.1 hx]; exact HSZ.out l0 hm0)
  have HLL := Aside0.mk (show (l ++ l).length = l.length + l.length from List.length_append)
  have HL32 := Aside0.mk (show l.length ≤ 32 ∧ 0 < l.length by omega)
  have HC0 : Aside0 (∃ ad, A = some ad ∧ w.cell? (ad.add 0) = some (.string l0)) := ⟨by
    obtain ⟨ad, e, h⟩ := Kd.at_string HC.out 0 (by decide) (by omega)
    rw [hrd0] at h
    exact ⟨ad, e, by simpa using h⟩⟩
  have HL0 := Aside0.mk (show l[0]? = some l0 by rw [List.getElem?_eq_getElem (by omega), hl0])
  obtain ⟨ad0, e0, hcl0⟩ := HC0.out
  subst e0
  have HCF := Aside0.mk (show ∀ W, Upd None0 w W → W.cell? ad0 = some (.string l0) from fun W hW => by
    obtain ⟨ad, e, h⟩ := Kd.at_string (cw HC hW) 0 (by decide) (by omega)
    rw [hrd0] at h
    cases e
    have e0 : ad0.add 0 = ad0 := by unfold Addr.add; split <;> simp_all
    rw [show ((0 : Int)).toNat = 0 from rfl, e0] at h
    exact h)
  have hlt0 : (0 : Int) < (l.length : Int) := by omega
  clear hcl0
  clear hra hl hz0 hz3 hm0 hrd0 hl0 HC0 hpos
  go_enter Try.func7, Try.ntmps7
  go_wp2_with (first
    | (go_at_call 8
       (with_reducible refine (awake_any _).mono ?_)
       rintro e wq ⟨rfl, hu⟩
       replace HU := Aside0.mk (((by exact ul HU) : Upd None0 w _).trans hu (fun _ h => h.elim))
       clear hu)
    | (go_at_call 9
       (with_reducible refine (great_c _ c l l.length rfl B cb acts acts.length rfl false _ (cw HC (by exact ul HU)) HCC.out (cw HB (by exact ul HU)) HBC.out HG.out).mono ?_)
       rintro e wq ⟨rfl, hb⟩
       replace HU := Aside0.mk (((by exact ul HU) : Upd None0 w _).trans (Upd.of_below hb : Upd None0 _ _) (fun _ h => h.elim))
       clear hb)
    | (go_at_call 11
       (with_reducible refine (all_c _ c l l.length rfl true _ (cw HC (by exact ul HU)) HCC.out HL3.out HALL.out).mono ?_)
       rintro e wq ⟨rfl, hb⟩
       replace HU := Aside0.mk (((by exact ul HU) : Upd None0 w _).trans (Upd.of_below hb.below : Upd None0 _ _) (fun _ h => h.elim))
       clear hb)
    | ((with_reducible refine gate_dst (N := 41) rfl ?_)
       refine row_lit Kd.string 9 rfl (N := 41) rfl (xs := ([] : List ByteArray)) (inner := []) ?hr (Reps.none _ _) (by simp) ?_; (case hr => first | (go_simp; done) | (go_simp; rfl))
       intro v_e wl hr hu
       have R_e := Aside0.mk (row_mono hr (fun k h => h.elim (fun h => h.elim) (fun h => (.inr (Nat.le_trans ((by exact ul HU) : Upd None0 w _).size h) : New w None0 k))))
       
       replace HU := Aside0.mk (((by exact ul HU) : Upd None0 w _).trans hu (fun _ h => h.elim))
       clear hr hu)
    | ((with_reducible refine gate_builtin (b := .append) (xs := #[.tmp 41, .tmp 42]) rfl ?_); at_builtin
       refine row_append_rows (Kd.string) (S := New w None0) rfl (.tmp 41) (.tmp 42) 22 9 (.string ByteArray.empty) 16 rfl Try.underlying22 infoStr rfl (by decide) (by omega) v_e [] l (some ad0) l.length c rfl rfl ?aO ?aR ?aM ?aL l rfl ?_
       (case aO => exact rl R_e); (case aR => exact cw HC (by exact ul HU)); (case aM => exact str_km _); (case aL => exact HLA.out)
       intro v_a wa ho hu
       obtain ⟨A_a, c_a, rfl⟩ := Kd.R_slice ho
       have R_a := Aside0.mk (row_mono ho (fun k hk => hk.elim id (fun h => (.inr (Nat.le_trans ((by exact ul HU) : Upd None0 w _).size h) : New w None0 k))))
       replace HU := Aside0.mk (((by exact ul HU) : Upd None0 w _).trans hu (fun k hk => .inr ((row_at R_e.out hk).elim (fun h => h.elim) id)))
       clear ho hu)
    | ((with_reducible refine gate_builtin (b := .append) (xs := #[.tmp 43, .tmp 44]) rfl ?_); at_builtin
       refine row_append_rows (Kd.string) (S := New w None0) rfl (.tmp 43) (.tmp 44) 22 9 (.string ByteArray.empty) 16 rfl Try.underlying22 infoStr rfl (by decide) (by omega) (.slice A_a l.length c_a) l l (some ad0) l.length c rfl rfl ?aO ?aR ?aM ?aL (l ++ l) rfl ?_
       (case aO => exact rl R_a); (case aR => exact cw HC (by exact ul HU)); (case aM => exact str_km _); (case aL => exact HLB.out)
       intro v_a wa ho hu
       obtain ⟨A_b, c_b, rfl⟩ := Kd.R_slice ho
       have R_b := Aside0.mk (row_mono ho (fun k hk => hk.elim id (fun h => (.inr (Nat.le_trans ((by exact ul HU) : Upd None0 w _).size h) : New w None0 k))))
       replace HU := Aside0.mk (((by exact ul HU) : Upd None0 w _).trans hu (fun k hk => .inr ((row_at R_a.out hk).elim (fun h => h.elim) id)))
       clear ho hu)
    | (go_at_call 10
       first
       | ((with_reducible refine (q_newY A_b c_b (l ++ l) (l.length + l.length) HLL.out _ (by exact rc (rl R_b)) (Kd.R_reads' R_b.out).2.1 HSZ2.out HALL2.out).mono ?_)
          rintro e wn ⟨gq, rfl, hs, hu⟩
          have hs0 : Qs wn (New w None0) gq _ _ _ _ := hs.mono (fun k h => h.elim (fun h => h.elim) (fun h => (.inr (Nat.le_trans ((by exact ul HU) : Upd None0 w _).size h) : New w None0 k)))
          obtain ⟨S1, hs1, hS1⟩ := qs_new_set hs0
          have P_q := Aside0.mk hs1
          have HS1 := Aside0.mk hS1
          clear hs0 hs1 hS1
          replace HU := Aside0.mk (((by exact ul HU) : Upd None0 w _).trans hu (fun _ h => h.elim))
          have hcl1 := HCF.out wn HU.out; have HWN0 := HU.out.size
          clear hs hu)
       | ((with_reducible refine (q_newY A_o c_o [l0] 1 rfl _ (by exact rc (rl R_o)) (Kd.R_reads' R_o.out).2.1 HSZ1.out HALL1.out).mono ?_)
          rintro e wo ⟨go, rfl, hs, hu⟩
          obtain ⟨S2, hs2, hS2⟩ := qs_new_set hs
          have P_o := Aside0.mk hs2
          have HS2 : Aside0 (∀ k, S2 k → wn.heap.size ≤ k ∧ k < wo.heap.size) := ⟨fun k h => ⟨Nat.le_trans HWN.out (Nat.le_trans (lu : Upd None0 wl _).size (hS2 k h).1), (hS2 k h).2⟩⟩
          have HWNO := Nat.le_trans HWN.out (Nat.le_trans (lu : Upd None0 wl _).size hu.size)
          clear hs2 hS2
          replace P_q := Aside0.mk (Qs.updN (by exact P_q.out.updN lu) hu)
          replace HU := Aside0.mk (((by exact ul HU) : Upd None0 w _).trans hu (fun _ h => h.elim))
          skip
          clear hs hu))
    | ((with_reducible refine gate_dst (N := 53) rfl ?_)
       refine row_lit Kd.string 9 rfl (N := 53) rfl (xs := [l0]) (inner := [.string l0]) ?hr (reps_one (c := [.string l0]) rfl rfl) (by simp) ?_; (case hr => first | (go_simp; done) | (go_simp; rfl))
       intro v_o wl hr hu
       obtain ⟨A_o, c_o, rfl⟩ := Kd.R_slice hr
       have R_o := Aside0.mk (row_mono hr (fun k h => h.elim (fun h => h.elim) (fun h => (.inr (Nat.le_trans ((by exact ul HU) : Upd None0 w _).size h) : New w None0 k))))
       replace P_q := Aside0.mk (Qs.updN (by exact P_q.out.updN lu) hu)
       have HWN := Aside0.mk (Nat.le_trans (lu : Upd None0 wn _).size hu.size)
       replace HU := Aside0.mk (((by exact ul HU) : Upd None0 w _).trans hu (fun _ h => h.elim))
       clear hr hu))
  have HWW := Aside0.mk (show wn.heap.size ≤ wo.heap.size from HWNO)
  have HS1L := Aside0.mk (show w.heap.size ≤ wn.heap.size from HWN0)
  have HAQ : Aside0 (∃ f : ByteArray → S43, List.replicate (l ++ l).length z43 = (l ++ l).map f ∧ List.replicate ([l0] : List ByteArray).length z43 = [l0].map f) := ⟨⟨fun _ => z43, by rw [List.map_const'], rfl⟩⟩
  obtain ⟨f0, hf1, hf2⟩ := HAQ.out
  rw [hf1] at P_q
  rw [hf2] at P_o
  clear hf1 hf2 HAQ
  go_loopg [65] acts.length (fun gk v65 wr => ∃ (i : Nat) (f : ByteArray → S43) (came : List Int) (bg : Bool), v65 = .int .i64 (i : Int) ∧ Aside0 (i ≤ acts.length ∧ acts.length - i ≤ gk) ∧ Aside0 (Qs wr S1 gq (l ++ l) ((l ++ l).map f) came bg) ∧ Aside0 (Qs wr S2 go [l0] ([l0].map f) came bg) ∧ Aside0 (Upd None0 w wr ∧ wo.heap.size ≤ wr.heap.size))
  case atStart => exact ⟨0, f0, [], false, rfl, ⟨Nat.zero_le _, by omega⟩, P_q, P_o, ⟨HU.out, Nat.le_refl _⟩⟩
  case round =>
    clear P_q P_o HU
    obtain ⟨i, f, came, bg, rfl, HI, P_q, P_o, HUU⟩ := hrel
    have HU := Aside0.mk HUU.out.1
    have HWR := Aside0.mk HUU.out.2
    clear HUU
    have hi0 : (0 : Int) ≤ (i : Int) := by omega
    have him : (i : Int) ≤ 200 := by have := HI.out.1; have := HLAC.out; omega
    by_cases hlt : i < acts.length
    case neg =>
      have hltd : decide ((i : Int) < (acts.length : Int)) = false := decide_eq_false (by omega)
      have HLN2 := Aside0.mk (show ((l ++ l).map f).length = l.length + l.length by simp)
      have HLN4 := Aside0.mk (show l.length + l.length ≤ 100000 by have := HL32.out; omega)
      go_wp2_with (first
        | (go_at_call 13
           first
           | ((with_reducible refine (q_answersN gq _ _ _ _ _ _ P_q.out (l.length + l.length) HLN2.out HLN4.out).mono ?_)
              rintro e w1 ⟨A_s, c_s, rfl, hr, hu⟩
              have R_s := Aside0.mk hr
              have P_o2 := Aside0.mk (P_o.out.updN hu)
              replace HU := Aside0.mk (HU.out.trans hu (fun _ h => h.elim))
              clear hr hu)
           | ((with_reducible refine (q_answersN go _ _ _ _ _ _ P_o2.out 1 rfl (by decide)).mono ?_)
              rintro e w2 ⟨A_t, c_t, rfl, hr, hu⟩
              have R_t := Aside0.mk hr
              replace R_s := Aside0.mk (row_upd R_s.out hu (fun k _ h => h))
              replace HU := Aside0.mk (HU.out.trans hu (fun _ h => h.elim))
              clear hr hu)))
      obtain ⟨gs, rfl⟩ : ∃ gs, A_s = some ⟨gs, 0, none⟩ := by
        obtain ⟨ad, _, h, _⟩ := Kd.C_get (rc R_s.out) z43 0 (by decide) (by rw [HLN2.out]; have := HL32.out; omega)
        subst h
        obtain ⟨gs, h⟩ := Kd.R_head R_s.out
        exact ⟨gs, by rw [h]⟩
      obtain ⟨gt, rfl⟩ : ∃ gs, A_t = some ⟨gs, 0, none⟩ := by
        obtain ⟨ad, _, h, _⟩ := Kd.C_get (rc R_t.out) z43 0 (by decide) (by simp)
        subst h
        obtain ⟨gs, h⟩ := Kd.R_head R_t.out
        exact ⟨gs, by rw [h]⟩
      have CG := Aside0.mk (show ∀ (W : World) (hW : Upd None0 w2 W) (k : Nat) (hk : k < (l ++ l).length), W.cell? ⟨gs, k * 2, none⟩ = some (.bool (f (l ++ l)[k]).f0) ∧ W.cell? ⟨gs, k * 2 + 1, none⟩ = some (.string (f (l ++ l)[k]).f1) from fun W hW k hk => by
        obtain ⟨cc, hcl, hM, hcc⟩ := Kd.R_getA (row_upd R_s.out hW (fun k _ h => h)) z43 (k : Int) (by omega) (by have h := hk; simp at h ⊢; omega)
        have hcce := k43_openM hM
        have e : ((l ++ l).map f).getD ((k : Int)).toNat z43 = f (l ++ l)[k] := by rw [Int.toNat_natCast, List.getD_eq_getElem?_getD, List.getElem?_map, List.getElem?_eq_getElem hk]; rfl
        rw [e] at hcce
        have h0 := hcc 0 (.bool (f (l ++ l)[k]).f0) (by rw [hcce]; rfl)
        have h1 := hcc 1 (.string (f (l ++ l)[k]).f1) (by rw [hcce]; rfl)
        rw [add_plain] at h0 h1
        simp only [Int.toNat_natCast, Nat.zero_add, Nat.add_zero] at h0 h1
        exact ⟨h0, h1⟩)
      have hpos : 0 < (l ++ l).length := by rw [HLL.out]; have := HL32.out; omega
      have hll0 : (l ++ l)[0] = l0 := by
        have h := HL0.out
        rw [List.getElem_append_left (by have := HL32.out; omega)]
        exact (List.getElem?_eq_some_iff.1 h).2
      obtain ⟨q0, q1⟩ := CG.out w2 (Upd.refl _ _) 0 hpos
      rw [hll0] at q0 q1
      obtain ⟨cct, hclt, hMt, hcct⟩ := Kd.R_getA R_t.out z43 0 (by decide) (by simp)
      have hccet := k43_openM hMt
      have q2 : w2.cell? ⟨gt, 0, none⟩ = some (.bool (f l0).f0) := by
        have := hcct 0 (.bool (f l0).f0) (by rw [hccet]; rfl)
        simpa [add_plain] using this
      have q3 : w2.cell? ⟨gt, 1, none⟩ = some (.string (f l0).f1) := by
        have := hcct 1 (.string (f l0).f1) (by rw [hccet]; rfl)
        simpa [add_plain] using this
      obtain ⟨fa, hfa⟩ : ∃ q, f l0 = q := ⟨_, rfl⟩
      rw [hfa] at q0 q1 q2 q3
      obtain ⟨fb, fs⟩ := fa
      have q0' : w2.cell? ⟨gs, 0, none⟩ = some (.bool fb) := by simpa using q0
      have q1' : w2.cell? ⟨gs, 1, none⟩ = some (.string fs) := by simpa using q1
      have y8 : ((l.length : Int) + (l.length : Int) == 2 * (l.length : Int)) = true := by rw [beq_iff_eq]; omega
      have y9 : ((l.length : Int) + (l.length : Int) != 2 * (l.length : Int)) = false := by rw [bne_eq_false_iff_eq]; omega
      have hlw : (2 : Int) * (l.length : Int) ≤ 100 := by have := HL32.out; omega
      have hlw0 : (0 : Int) ≤ (l.length : Int) := by omega
      have hlp : (0 : Int) < (l.length : Int) + (l.length : Int) := by have := HL32.out; omega
      clear hclt hMt hcct hccet hfa q0 q1 hpos hll0 P_q P_o P_o2
      go_quiet (fail)
      go_wp2
      clear q0' q1' q2 q3
      go_loopg [132] l.length (fun gk v132 wr => ∃ (j : Nat), v132 = .int .i64 (j : Int) ∧ Aside0 (j ≤ l.length ∧ l.length - j ≤ gk) ∧ Aside0 (Upd None0 w2 wr))
      case atStart => exact ⟨0, rfl, ⟨Nat.zero_le _, by omega⟩, ⟨(Upd.refl None0 w2).drewN _⟩⟩
      case round =>
        obtain ⟨j, rfl, JI, UR⟩ := hrel
        have hj0 : (0 : Int) ≤ (j : Int) := by omega
        have hjm : (j : Int) ≤ 100 := by have := JI.out.1; have := HL32.out; omega
        by_cases hlj : j < l.length
        case neg =>
          have hljd : decide ((j : Int) < (l.length : Int)) = false := decide_eq_false (by omega)
          go_wp2
          go_ret
          exact ⟨rfl, HU.out.trans UR.out (fun _ h => h.elim)⟩
        have hljd : decide ((j : Int) < (l.length : Int)) = true := decide_eq_true (by omega)
        have hlji : (j : Int) < (l.length : Int) := by omega
        have hlj1 : (j : Int) < (l.length : Int) + (l.length : Int) := by omega
        have hlj2 : (j : Int) + (l.length : Int) < (l.length : Int) + (l.length : Int) := by omega
        have hlj3 : (0 : Int) ≤ (j : Int) + (l.length : Int) := by omega
        have hlj4 : ((j : Int) + (l.length : Int)).toNat = j + l.length := by omega
        obtain ⟨q0, q1⟩ := CG.out wr UR.out j (by rw [HLL.out]; omega)
        obtain ⟨q2, q3⟩ := CG.out wr UR.out (j + l.length) (by rw [HLL.out]; omega)
        rw [List.getElem_append_left hlj] at q0 q1
        rw [List.getElem_append_right (by omega)] at q2 q3
        simp only [Nat.add_sub_cancel] at q2 q3
        obtain ⟨fa, hfa⟩ : ∃ q, f l[j] = q := ⟨_, rfl⟩
        rw [hfa] at q0 q1 q2 q3
        obtain ⟨fb, fs⟩ := fa
        clear hfa
        go_wp2
        go_quiet (fail)
        go_wp2
        go_roundg (gk - 1)
        case measure => have := JI.out.2; omega
        case rel => exact ⟨j + 1, by simp, ⟨by omega, by have := JI.out.2; omega⟩, ⟨UR.out.drewN _⟩⟩
    have hltd : decide ((i : Int) < (acts.length : Int)) = true := decide_eq_true (by omega)
    have hlti : (i : Int) < (acts.length : Int) := by omega
    obtain ⟨adb, e2, hk0, hk1⟩ := at_T37 (cw HB HU.out) (i : Int) hi0 hlti
    subst e2
    obtain ⟨ac, hac⟩ : ∃ q, rd_T37 acts (i : Int) = q := ⟨_, rfl⟩
    rw [hac, Int.toNat_natCast] at hk0 hk1
    have hsa : ac.f1.size ≤ 100 := by
      refine HSA.out ac ?_
      rw [← hac]
      have : rd_T37 acts (i : Int) = acts[i] := by simp [rd_T37, hlt]
      rw [this]; exact List.getElem_mem hlt
    clear hac
    obtain ⟨kd, tx⟩ := ac
    obtain ⟨gko, hgko⟩ : ∃ q, q = gk := ⟨_, rfl⟩
    rw [← hgko] at HI
    go_wp2_with (first
      | ((with_reducible refine gate_dst (N := 10) rfl ?_)
         refine boxnew ?hg (N := 10) ?hd (cs := #[.int .i64 0, .string ByteArray.empty]) (t := 37) ?hr ?_; (case hd => rfl); (case hg => rfl); (case hr => first | (go_simp; done) | (go_simp; rfl))
         intro ga hge wA hbox hu
         have HGA := Aside0.mk (Nat.le_trans HWR.out (Nat.le_trans (lu : Upd None0 wr _).size hge))
         have HGW := Aside0.mk (Nat.le_trans (Nat.le_trans HU.out.size (lu : Upd None0 wr _).size) hge)
         replace P_q := Aside0.mk (Qs.updN (by exact P_q.out.updN lu) hu)
         replace P_o := Aside0.mk (Qs.updN (by exact P_o.out.updN lu) hu)
         replace HU := Aside0.mk (((by exact ul HU) : Upd None0 w _).trans hu (fun _ h => h.elim))
         have B_a := Aside0.mk hbox
         clear hu hbox hge)
      | ((with_reducible refine gate_store (t := 37) (p := 10) (v := .tmp 68) rfl ?_)
         refine rowput rfl 37 (.tmp 10) (.tmp 68) rfl rfl ga #[.int .i64 kd, .string tx] rfl rfl 37 #[.int .i64 0, .string ByteArray.empty] (by exact bl B_a) (by kernel_rfl) rfl (by simp [Value.oneCell']) ?_
         intro wS hbox hu
         replace P_q := Aside0.mk (Qs.upd (by exact P_q.out.updN lu) hu (fun k h1 h2 => by have := (HS1.out k h1).2; have := HGA.out; have := HWW.out; omega))
         replace P_o := Aside0.mk (Qs.upd (by exact P_o.out.updN lu) hu (fun k h1 h2 => by have := (HS2.out k h1).2; have := HGA.out; omega))
         replace HU := Aside0.mk (((by exact ul HU) : Upd None0 w _).trans hu (fun k hk => .inr (by rw [hk]; exact HGW.out)))
         clear B_a; have B_a := Aside0.mk hbox; have HBA0 := B_a
         clear hu hbox))
    obtain ⟨wl, hwl⟩ : ∃ W, wS.alloc (.cells #[.pointer (some ⟨gq, 0, none⟩), .pointer (some ⟨go, 0, none⟩)] 25) = W := ⟨_, rfl⟩
    have hu9 : Upd None0 wS wl := by rw [← hwl]; exact lu
    have B_p := Aside0.mk (show wl.heap[wS.heap.size]? = some (.cells #[.pointer (some ⟨gq, 0, none⟩), .pointer (some ⟨go, 0, none⟩)] 25 (0, 0)) by rw [← hwl]; exact heap_alloc_new _ _)
    replace B_a := Aside0.mk (hu9.blk B_a.out (fun h => h))
    replace P_q := Aside0.mk (P_q.out.updN hu9)
    replace P_o := Aside0.mk (P_o.out.updN hu9)
    replace HU := Aside0.mk (HU.out.trans hu9 (fun _ h => h.elim))
    have HGP := Aside0.mk (show wo.heap.size ≤ wS.heap.size from Nat.le_of_lt (Nat.lt_of_le_of_lt HGA.out (blk_lt HBA0.out)))
    rw [hwl]
    have HGL := Aside0.mk (show wo.heap.size ≤ wl.heap.size from Nat.le_trans HGP.out (Nat.le_of_lt (blk_lt B_p.out)))
    generalize wS.heap.size = gp at *
    clear hu9 hwl
    have HDS := Aside0.mk (show ∀ k, S1 k → ¬ S2 k from fun k h1 h2 => by have := (HS1.out k h1).2; have := (HS2.out k h2).1; omega)
    have HLQ := Aside0.mk (show (l ++ l).length = ((l ++ l).map f).length by simp)
    have HLO := Aside0.mk (show ([l0] : List ByteArray).length = (([l0] : List ByteArray).map f).length from rfl)
    have HL64 := Aside0.mk (show (l ++ l).length ≤ 64 by rw [HLL.out]; have := HL32.out.1; omega)
    have HS12 := Aside0.mk (show ∀ k, (S1 k ∨ S2 k) → w.heap.size ≤ k ∧ k < wo.heap.size from fun k h => h.elim (fun h => by have := HS1.out k h; have := HWW.out; omega) (fun h => by have := HS2.out k h; have := HS1L.out; omega))
    go_loopg [73] 2 (fun gk v73 wr => ∃ (j : Nat), v73 = .int .i64 (j : Int) ∧ Aside0 (j ≤ 2 ∧ 2 - j ≤ gk) ∧ Aside0 (AlikeR S1 S2 gq go (l ++ l) l0 ((l ++ l).map f) ([l0].map f) came bg ⟨kd, tx⟩ wl j wr))
    case atStart => exact ⟨0, rfl, ⟨by omega, by omega⟩, ⟨fun _ => P_q.out, fun h => by omega, fun _ => P_o.out, fun h => by omega, Upd.refl _ _⟩⟩
    case round =>
      clear P_q P_o
      obtain ⟨j, rfl, JI, JR⟩ := hrel
      have hj0 : (0 : Int) ≤ (j : Int) := by omega
      have hjm : (j : Int) ≤ 2 := by have := JI.out.1; omega
      by_cases hlj : j < 2
      case neg =>
        have hljd : decide ((j : Int) < 2) = false := decide_eq_false (by omega)
        go_wp2
        go_roundg (gko - 1)
        case measure => have := HI.out.2; omega
        case rel =>
          obtain ⟨_, h1, _, h3, h4⟩ := JR.out
          have q1 := h1 (by omega)
          have q2 := h3 (by omega)
          rw [stA_map] at q1 q2
          exact ⟨i + 1, _, _, _, by simp, ⟨by omega, by have := HI.out.2; omega⟩, ⟨q1⟩, ⟨q2⟩, ⟨HU.out.trans h4 (fun k hk => .inr (HS12.out k hk).1), Nat.le_trans HGL.out h4.size⟩⟩
      have hljd : decide ((j : Int) < 2) = true := decide_eq_true (by omega)
      have hlji : (j : Int) < 2 := by omega
      obtain ⟨gx, Sx, Lx, ax, hgx0, hgx1, hPx, hlx, hlxm, hsx, hK⟩ := alike_step JR.out hlj HDS.out HLQ.out HLO.out HL64.out
      have hB_p := JR.out.2.2.2.2.blk B_p.out (fun h => by have := (HS12.out _ h).2; have := HGP.out; omega)
      have hB_a := JR.out.2.2.2.2.blk B_a.out (fun h => by have := (HS12.out _ h).2; have := HGA.out; omega)
      have hcp : wr.cell? ⟨gp, j, none⟩ = some (.pointer (some ⟨gx, 0, none⟩)) := by
        rw [blk_cell hB_p j]
        rcases (show j = 0 ∨ j = 1 by omega) with rfl | rfl
        · rw [hgx0 rfl]; rfl
        · rw [hgx1 rfl]; rfl
      have hca0 : wr.cell? ⟨ga, 0, none⟩ = some (.int .i64 kd) := (blk_cell hB_a 0).trans rfl
      have hca1 : wr.cell? ⟨ga, 1, none⟩ = some (.string tx) := (blk_cell hB_a 1).trans rfl
      have P_x := Aside0.mk hPx
      have HLX := Aside0.mk hlx
      have HLXM := Aside0.mk hlxm
      have HK := Aside0.mk hK
      have HBA2 := Aside0.mk hB_a
      have HSX := Aside0.mk hsx
      clear hgx0 hgx1 hPx hlx hlxm hK hB_p hB_a hsx
      by_cases hk1 : kd = 1
      · subst hk1
        go_wp2_with (first
          | (go_at_call 15
             (with_reducible refine (q_begin gx _ _ _ _ _ _ P_x.out).mono ?_)
             rintro e wq ⟨rfl, hs, hu⟩
             have P_z := Aside0.mk hs
             have UZ := Aside0.mk hu
             clear hs hu))
        go_roundg (gk - 1)
        case measure => have := JI.out.2; omega
        case rel => exact ⟨j + 1, by simp, ⟨by omega, by have := JI.out.2; omega⟩, ⟨HK.out _ P_z.out UZ.out⟩⟩
      have y3 : (kd == 1) = false := beq_eq_false_iff_ne.2 hk1
      by_cases hk2 : kd = 2
      · subst hk2
        go_wp2
        obtain ⟨gki, hgki⟩ : ∃ q, q = gk := ⟨_, rfl⟩
        rw [← hgki] at JI
        go_loopg [88] tx.size (fun gk v88 wy => ∃ (m : Nat), v88 = .int .i64 (m : Int) ∧ Aside0 (m ≤ tx.size ∧ tx.size - m ≤ gk) ∧ Aside0 (Qs wy Sx gx Lx ax (came ++ (bytesOf tx).take m) bg) ∧ Aside0 (Upd Sx wr wy))
        case atStart => exact ⟨0, rfl, ⟨Nat.zero_le _, by omega⟩, ⟨by simpa using P_x.out⟩, ⟨Upd.refl _ _⟩⟩
        case round =>
          (try clear hca0 hca1 hcp)
          obtain ⟨m, rfl, MI, P_y, UY⟩ := hrel
          have hm0 : (0 : Int) ≤ (m : Int) := by omega
          have hts : tx.size ≤ 100 := hsa
          have hmm : (m : Int) ≤ 100 := by have := MI.out.1; omega
          have hca1 : wr.cell? ⟨ga, 1, none⟩ = some (.string tx) := (blk_cell (UY.out.blk HBA2.out (fun h => by have := (HS12.out _ (HSX.out _ h)).2; have := HGA.out; omega)) 1).trans rfl
          clear hts
          by_cases hlm : m < tx.size
          · have hlmd : decide ((m : Int) < (tx.size : Int)) = true := decide_eq_true (by omega)
            have hlmi : (m : Int) < (tx.size : Int) := by omega
            obtain ⟨b, hb⟩ : ∃ q, bt tx (m : Int) = q := ⟨_, rfl⟩
            have hbx : ∀ h : m < tx.size, (((tx[m]'h).toNat : Nat) : Int) = b := by rw [← hb]; exact bt_at tx (m : Int)
            have HTK := Aside0.mk (take_next tx m hlm)
            rw [hb] at HTK
            clear hb
            go_wp2_with (first
              | (go_at_call 16
                 (with_reducible refine (q_push gx _ _ _ _ _ _ P_y.out b).mono ?_)
                 rintro e wq ⟨rfl, hs, hu⟩
                 replace UY := Aside0.mk (UY.out.trans hu (fun k hk => .inl hk))
                 clear P_y hu; have P_y := Aside0.mk hs; clear hs))
            go_roundg (gk - 1)
            case measure => have := MI.out.2; omega
            case rel => exact ⟨m + 1, by simp, ⟨by omega, by have := MI.out.2; omega⟩, ⟨by rw [HTK.out, ← List.append_assoc]; exact P_y.out⟩, UY⟩
          have hlmd : decide ((m : Int) < (tx.size : Int)) = false := decide_eq_false (by omega)
          have htk : (bytesOf tx).take m = bytesOf tx := List.take_of_length_le (by rw [bytesOf_length]; omega)
          rw [htk] at P_y
          go_wp2
          go_roundg (gki - 1)
          case measure => have := JI.out.2; omega
          case rel => exact ⟨j + 1, by simp, ⟨by omega, by have := JI.out.2; omega⟩, ⟨HK.out _ P_y.out UY.out⟩⟩
      have y4 : (kd == 2) = false := beq_eq_false_iff_ne.2 hk2
      by_cases hk3 : kd = 3
      · subst hk3
        go_wp2_with (first
          | (go_at_call 17
             (with_reducible refine (q_dateD gx _ _ _ _ _ _ P_x.out tx HLX.out HLXM.out).mono ?_)
             rintro e wq ⟨rfl, hs, hu, -⟩
             have P_z := Aside0.mk hs
             have UZ := Aside0.mk hu
             clear hs hu))
        go_roundg (gk - 1)
        case measure => have := JI.out.2; omega
        case rel => exact ⟨j + 1, by simp, ⟨by omega, by have := JI.out.2; omega⟩, ⟨HK.out _ P_z.out UZ.out⟩⟩
      have y5 : (kd == 3) = false := beq_eq_false_iff_ne.2 hk3
      have HN1 := Aside0.mk (show stA Lx ax came bg (⟨kd, tx⟩ : S37) = ax ∧ stC came (⟨kd, tx⟩ : S37) = came ∧ stB bg (⟨kd, tx⟩ : S37) = bg from ⟨by unfold stA; rw [if_neg hk3], by unfold stC; rw [if_neg hk1, if_neg hk2], by unfold stB; rw [if_neg hk1]⟩)
      clear hk1 hk2 hk3
      go_wp2
      go_roundg (gk - 1)
      case measure => have := JI.out.2; omega
      case rel => exact ⟨j + 1, by simp, ⟨by omega, by have := JI.out.2; omega⟩, ⟨HK.out _ (by rw [HN1.out.1, HN1.out.2.1, HN1.out.2.2]; exact P_x.out) (Upd.refl _ _)⟩⟩

def gantletlaw18_QueryAlike.f (l : List ByteArray) (a : List S37) : Option Bool := some true
theorem gantletlaw18_QueryAlike.calls (A : Option Addr) (c : Nat) (l : List ByteArray) (B : Option Addr) (cb : Nat) (a : List S37) (r : Bool) (w : World) (hC : Kd.C Kd.string w A l.length l) (hc : l.length ≤ c) (hB : Kd.C k37 w B a.length a) (hbc : a.length ≤ cb) (h : gantletlaw18_QueryAlike.f l a = some r) :
    Calls Try.prog 7 #[.slice A l.length c, .slice B a.length cb] w fun e w' => e = .returned (.bool r) ∧ Below w.heap.size w w' := by
  unfold gantletlaw18_QueryAlike.f at h
  obtain rfl := Option.some.inj h
  exact (gantletlaw18_QueryAlike.any A c l B cb a w hC hc hB hbc).mono fun e w' ⟨h1, h2⟩ => ⟨h1, h2.below0⟩

end Go.Proofs.Ytidcmkmlcmjekaa.PA
