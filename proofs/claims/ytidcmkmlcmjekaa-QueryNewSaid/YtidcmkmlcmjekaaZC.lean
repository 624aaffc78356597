/- The law QueryNew, walked by hand. Conditions: the list is no longer than the row has it. -/
import Derived.Test.YtidcmkmlcmjekaaZB
import Derived.Outline
import Derived.Lib.SliceRun
import Derived.Laws.Rows
import Derived.Laws.BytesArg
import Derived.Deep.RegionHeld3
namespace Go.Proofs.Ytidcmkmlcmjekaa.PA
open Go.RowKit Go.Proofs.YtidcmkmlcmjekaaW.PrintWords Go.Proofs.YtidcmkmlcmjekaaW.PrintLast Go.Proofs.YtidcmkmlcmjekaaW.PrintMore Go.Proofs.Ytidcmkmlcmjekaa.Own
attribute [local go_sem] max2_int min2_int max_two min_two max_three min_three max_four min_four
set_option linter.unusedVariables false
set_option linter.unusedSimpArgs false
theorem great_c (A0 : Option Addr) (c0 : Nat) (l : List ByteArray) (n0 : Nat) (h0 : l.length = n0) (A1 : Option Addr) (c1 : Nat) (acts : List S37) (n1 : Nat) (h1 : acts.length = n1) (r : Bool) (w : World) (hr0 : Kd.C Kd.string w A0 l.length l) (hc0 : l.length ≤ c0) (hr1 : Kd.C k37 w A1 acts.length acts) (hc1 : acts.length ≤ c1) (h : gantletlaw18_great.f 600 l acts = some r) :
    Calls Try.prog 9 #[.slice A0 n0 c0, .slice A1 n1 c1] w fun e w' => e = .returned (.bool r) ∧ Below w.heap.size w w' := by
  subst h0 h1
  exact gantletlaw18_great.calls 600 A0 c0 l A1 c1 acts r w hr0 hc0 hr1 hc1 h
theorem all_c (A0 : Option Addr) (c0 : Nat) (l : List ByteArray) (n0 : Nat) (h0 : l.length = n0) (r : Bool) (w : World) (hr0 : Kd.C Kd.string w A0 l.length l) (hc0 : l.length ≤ c0) (hl : l.length ≤ 1000) (h : (l.all BNum.R && decide (l.length ≤ 64)) = r) :
    Calls Try.prog 11 #[.slice A0 n0 c0] w fun e w' => e = .returned (.bool r) ∧ Drawn0 w w' := by
  subst h0 h
  exact gantletref18_All.calls 2000 A0 c0 l _ w hr0 hc0 (BNum.all_ok l (by omega) 2000 (by omega))
theorem c_nil (w : World) : Kd.C k37 w none ([] : List S37).length [] := rc (Kd.R_nil k37 37 w 0 None0)
theorem cw {α : Type} {d : Kd α} {w W : World} {A : Option Addr} {n : Nat} {xs : List α} (h : Aside0 (Kd.C d w A n xs)) (hu : Upd None0 w W) : Kd.C d W A n xs := Kd.C_below h.out hu.below0
theorem made_row' (W : World) (n : Nat) (hn : Aside0 (n ≤ 1000)) : k43.R 43 (W.alloc (.cells (madeCells #[.bool false, .string ByteArray.empty] (n * 2)) 43)) 0 (New W None0) (.slice (some ⟨W.heap.size, 0, none⟩) (List.replicate n z43).length n) (List.replicate n z43) := by
  rw [List.length_replicate]; exact made_row W n hn.out
theorem mk_ans (xs : Nat) (hl : xs ≤ 1000) : ∀ W, (Instr.makeSlice 31 (.int .i64 (xs : Int)) (.int .i64 (xs : Int))).run Try.prog W = .ok (.slice (some ⟨W.heap.size, 0, none⟩) xs xs) (W.alloc (.cells (madeCells #[.bool false, .string ByteArray.empty] (xs * 2)) 43)) := by
  obtain ⟨i0, hi, hzz⟩ := Option.map_eq_some_iff.1 infoAns
  simp only [Prod.mk.injEq] at hzz
  obtain ⟨hz0, hz1, hz2⟩ := hzz
  intro W
  have hr := run_make (P := Try.prog) W 31 43 i0 (.agg #[.bool false, .string ByteArray.empty]) Try.underlying31 hi hz0 .i64 .i64 (xs : Int) (xs : Int) (by omega) (by omega) (by rw [hz2]; omega) (by omega)
  simp only [Int.toNat_natCast] at hr
  rw [hz1] at hr
  exact hr

theorem made_upd {T : Nat → Prop} {W W2 : World} {v : Value} {ys : List S43} (hr : k43.R 43 W 0 T v ys) (hu : Upd None0 W.drew W2) : k43.R 43 W2 0 T v ys :=
  row_upd hr ((Upd.refl None0 W).drew.trans hu (fun _ h => h.elim)) (fun k _ h => h)

set_option maxHeartbeats 16000000 in
set_option maxRecDepth 100000 in
theorem gantletlaw18_QueryNew.any (A : Option Addr) (c : Nat) (l : List ByteArray) (w : World) (hC : Kd.C Kd.string w A l.length l) (hc : l.length ≤ c) :
    Calls Try.prog 3 #[.slice A l.length c] w fun e w' => e = .returned (.bool true) ∧ Upd None0 w w' := by
  have HU := Aside0.mk (Upd.refl None0 w)
  have HC := Aside0.mk hC
  have HCC := Aside0.mk hc
  have hu_ := Try.underlying43
  obtain ⟨rg, hg, hgf⟩ := BNum.great_ok l [] 600 (by decide)
  have HG := Aside0.mk hg
  clear hC hc hg
  cases rg with
  | true =>
    clear hgf
    go_enter Try.func3, Try.ntmps3
    go_wp2_with (first
      | (go_at_call 8
         (with_reducible refine (awake_any _).mono ?_)
         rintro e wq ⟨rfl, hu⟩
         replace HU := Aside0.mk (((by exact ul HU) : Upd None0 w _).trans hu (fun _ h => h.elim))
         clear hu)
      | (go_at_call 9
         (with_reducible refine (great_c A c l l.length rfl none 0 [] 0 rfl true _ (cw HC (by exact ul HU)) HCC.out (c_nil _) (Nat.le_refl _) HG.out).mono ?_)
         rintro e wq ⟨rfl, hb⟩
         replace HU := Aside0.mk (((by exact ul HU) : Upd None0 w _).trans (Upd.of_below hb : Upd None0 _ _) (fun _ h => h.elim))
         clear hb))
    go_ret
    exact ⟨rfl, HU.out⟩
  | false =>
  obtain ⟨hl, _, hsz, _⟩ := hgf rfl
  have HSZ := Aside0.mk (show ∀ x, x ∈ l → x.size ≤ 1000 from fun x hx => Nat.le_trans (hsz x hx) (by decide))
  have HL3 := Aside0.mk (show l.length ≤ 1000 by omega)
  have HL5 := Aside0.mk (show l.length ≤ 100000 by omega)
  have HLA := Aside0.mk (show (([] : List ByteArray).length + l.length) * 16 ≤ 140737488355328 by simp; omega)
  have HR1 := Aside0.mk (show (List.replicate l.length z43).length ≤ 1000 by simp; omega)
  have hmk := mk_ans l.length HL3.out
  obtain ⟨ra, hra⟩ : ∃ r, (l.all BNum.R && decide (l.length ≤ 64)) = r := ⟨_, rfl⟩
  have HALL := Aside0.mk hra
  clear hgf hl hsz hra
  cases ra with
  | false =>
    go_enter Try.func3, Try.ntmps3
    go_wp2_with (first
      | (go_at_call 8
         (with_reducible refine (awake_any _).mono ?_)
         rintro e wq ⟨rfl, hu⟩
         replace HU := Aside0.mk (((by exact ul HU) : Upd None0 w _).trans hu (fun _ h => h.elim))
         clear hu)
      | (go_at_call 9
         (with_reducible refine (great_c A c l l.length rfl none 0 [] 0 rfl false _ (cw HC (by exact ul HU)) HCC.out (c_nil _) (Nat.le_refl _) HG.out).mono ?_)
         rintro e wq ⟨rfl, hb⟩
         replace HU := Aside0.mk (((by exact ul HU) : Upd None0 w _).trans (Upd.of_below hb : Upd None0 _ _) (fun _ h => h.elim))
         clear hb)
      | ((with_reducible refine gate_dst (N := 13) rfl ?_)
         refine row_lit Kd.string 9 rfl (N := 13) rfl (xs := ([] : List ByteArray)) (inner := []) ?hr (Reps.none _ _) (by simp) ?_; (case hr => first | (go_simp; done) | (go_simp; rfl))
         intro v_e wl hr hu
         have R_e := Aside0.mk (row_mono hr (fun k h => h.elim (fun h => h.elim) (fun h => (.inr (Nat.le_trans ((by exact ul HU) : Upd None0 w _).size h) : New w None0 k))))
         
         replace HU := Aside0.mk (((by exact ul HU) : Upd None0 w _).trans hu (fun _ h => h.elim))
         clear hr hu)
      | ((with_reducible refine gate_builtin (b := .append) (xs := #[.tmp 13, .tmp 14]) rfl ?_); at_builtin
         refine row_append_rows (Kd.string) (S := New w None0) rfl (.tmp 13) (.tmp 14) 22 9 (.string ByteArray.empty) 16 rfl Try.underlying22 infoStr rfl (by decide) (by omega) v_e [] l A l.length c rfl rfl ?aO ?aR ?aM ?aL l rfl ?_
         (case aO => exact rl R_e); (case aR => exact cw HC (by exact ul HU)); (case aM => exact str_km _); (case aL => exact HLA.out)
         intro v_a wa ho hu
         obtain ⟨A_a, c_a, rfl⟩ := Kd.R_slice ho
         have R_a := Aside0.mk (row_mono ho (fun k hk => hk.elim id (fun h => (.inr (Nat.le_trans ((by exact ul HU) : Upd None0 w _).size h) : New w None0 k))))
         replace HU := Aside0.mk (((by exact ul HU) : Upd None0 w _).trans hu (fun k hk => .inr ((row_at R_e.out hk).elim (fun h => h.elim) id)))
         clear ho hu)
      | (go_at_call 10
         (with_reducible refine (q_newN A_a c_a l l.length rfl _ (by exact rc (rl R_a)) HL5.out HSZ.out HALL.out).mono ?_)
         rintro e wq ⟨rfl, hu⟩
         replace HU := Aside0.mk (((by exact ul HU) : Upd None0 w _).trans hu (fun _ h => h.elim))
         clear hu)
      | (go_at_call 11
         (with_reducible refine (all_c A c l l.length rfl false _ (cw HC (by exact ul HU)) HCC.out HL3.out HALL.out).mono ?_)
         rintro e wq ⟨rfl, hb⟩
         replace HU := Aside0.mk (((by exact ul HU) : Upd None0 w _).trans (Upd.of_below hb.below : Upd None0 _ _) (fun _ h => h.elim))
         clear hb))
    go_ret
    exact ⟨by simp, HU.out⟩
  | true =>
  go_enter Try.func3, Try.ntmps3
  go_wp2_with (first
    | (go_at_call 8
       (with_reducible refine (awake_any _).mono ?_)
       rintro e wq ⟨rfl, hu⟩
       replace HU := Aside0.mk (((by exact ul HU) : Upd None0 w _).trans hu (fun _ h => h.elim))
       clear hu)
    | (go_at_call 9
       (with_reducible refine (great_c A c l l.length rfl none 0 [] 0 rfl false _ (cw HC (by exact ul HU)) HCC.out (c_nil _) (Nat.le_refl _) HG.out).mono ?_)
       rintro e wq ⟨rfl, hb⟩
       replace HU := Aside0.mk (((by exact ul HU) : Upd None0 w _).trans (Upd.of_below hb : Upd None0 _ _) (fun _ h => h.elim))
       clear hb)
    | ((with_reducible refine gate_dst (N := 13) rfl ?_)
       refine row_lit Kd.string 9 rfl (N := 13) rfl (xs := ([] : List ByteArray)) (inner := []) ?hr (Reps.none _ _) (by simp) ?_; (case hr => first | (go_simp; done) | (go_simp; rfl))
       intro v_e wl hr hu
       have R_e := Aside0.mk (row_mono hr (fun k h => h.elim (fun h => h.elim) (fun h => (.inr (Nat.le_trans ((by exact ul HU) : Upd None0 w _).size h) : New w None0 k))))
       
       replace HU := Aside0.mk (((by exact ul HU) : Upd None0 w _).trans hu (fun _ h => h.elim))
       clear hr hu)
    | ((with_reducible refine gate_builtin (b := .append) (xs := #[.tmp 13, .tmp 14]) rfl ?_); at_builtin
       refine row_append_rows (Kd.string) (S := New w None0) rfl (.tmp 13) (.tmp 14) 22 9 (.string ByteArray.empty) 16 rfl Try.underlying22 infoStr rfl (by decide) (by omega) v_e [] l A l.length c rfl rfl ?aO ?aR ?aM ?aL l rfl ?_
       (case aO => exact rl R_e); (case aR => exact cw HC (by exact ul HU)); (case aM => exact str_km _); (case aL => exact HLA.out)
       intro v_a wa ho hu
       obtain ⟨A_a, c_a, rfl⟩ := Kd.R_slice ho
       have R_a := Aside0.mk (row_mono ho (fun k hk => hk.elim id (fun h => (.inr (Nat.le_trans ((by exact ul HU) : Upd None0 w _).size h) : New w None0 k))))
       replace HU := Aside0.mk (((by exact ul HU) : Upd None0 w _).trans hu (fun k hk => .inr ((row_at R_e.out hk).elim (fun h => h.elim) id)))
       clear ho hu)
    | (go_at_call 10
       (with_reducible refine (q_newY A_a c_a l l.length rfl _ (by exact rc (rl R_a)) (Kd.R_reads' R_a.out).2.1 HSZ.out HALL.out).mono ?_)
       rintro e wq ⟨g, rfl, hs, hu⟩
       have P_q := Aside0.mk (hs.mono (fun k h => h.elim (fun h => h.elim) (fun h => (.inr (Nat.le_trans ((by exact ul HU) : Upd None0 w _).size h) : New w None0 k))))
       have HLQ := Aside0.mk (List.length_replicate (n := List.length l) (a := z43)).symm
       have HLM := Aside0.mk (show (l).length ≤ 100000 from HL5.out)
       replace HU := Aside0.mk (((by exact ul HU) : Upd None0 w _).trans hu (fun _ h => h.elim))
       clear hs hu)
    | (go_at_call 11
       (with_reducible refine (all_c A c l l.length rfl true _ (cw HC (by exact ul HU)) HCC.out HL3.out HALL.out).mono ?_)
       rintro e wq ⟨rfl, hb⟩
       replace HU := Aside0.mk (((by exact ul HU) : Upd None0 w _).trans (Upd.of_below hb.below : Upd None0 _ _) (fun _ h => h.elim))
       replace P_q := Aside0.mk (Qs.updN (by exact P_q.out.updN lu) (Upd.of_below hb.below : Upd None0 _ _))
       clear hb))
  (try simp only [Act.put, List.setIfInBounds_toArray, List.set_cons_zero, List.set_cons_succ])
  go_region_held3 (fun _ => True) (exact True.intro) (first
    | (go_at_call 13
       (with_reducible refine (q_answersN g _ _ _ _ _ _ (by exact P_q.out.updN lu) l.length List.length_replicate HL5.out).mono ?_)
       rintro e w2 ⟨A2, c2, rfl, hr, hu⟩
       have RA2 := Aside0.mk hr
       have HUA := Aside0.mk hu
       replace HU := Aside0.mk (((by exact ul HU) : Upd None0 w _).trans hu (fun _ h => h.elim)))
    | (go_at_call 12
       first
       | ((with_reducible refine (same_c A2 _ c2 l.length (List.replicate l.length z43) l.length l.length List.length_replicate List.length_replicate _ (by exact rc (rl RA2)) (Kd.R_reads' RA2.out).2.1 (by exact rc (made_row' _ l.length HL3)) (by rw [List.length_replicate]; exact Nat.le_refl _) HR1.out).mono ?_)
          rintro e w3 ⟨rfl, hb⟩
          replace HU := Aside0.mk (((by exact ul HU) : Upd None0 w _).trans (Upd.of_below hb.below : Upd None0 _ _) (fun _ h => h.elim)))
       | ((with_reducible refine (same_c A2 _ c2 l.length (List.replicate l.length z43) l.length l.length List.length_replicate List.length_replicate _ (by exact rc (rl RA2)) (Kd.R_reads' RA2.out).2.1 (by exact rc (made_upd (made_row' _ l.length HL3) HUA.out)) (by rw [List.length_replicate]; exact Nat.le_refl _) HR1.out).mono ?_)
          rintro e w3 ⟨rfl, hb⟩
          replace HU := Aside0.mk (((by exact ul HU) : Upd None0 w _).trans (Upd.of_below hb.below : Upd None0 _ _) (fun _ h => h.elim)))))
  all_goals (try go_wp2)
  all_goals go_ret
  all_goals exact ⟨by simp, (by exact ul HU)⟩

def gantletlaw18_QueryNew.f (_ : List ByteArray) : Option Bool := some true
theorem gantletlaw18_QueryNew.calls (A : Option Addr) (c : Nat) (l : List ByteArray) (r : Bool) (w : World) (hC : Kd.C Kd.string w A l.length l) (hc : l.length ≤ c) (h : gantletlaw18_QueryNew.f l = some r) :
    Calls Try.prog 3 #[.slice A l.length c] w fun e w' => e = .returned (.bool r) ∧ Below w.heap.size w w' := by
  unfold gantletlaw18_QueryNew.f at h
  obtain rfl := Option.some.inj h
  exact (gantletlaw18_QueryNew.any A c l w hC hc).mono fun e w' ⟨h1, h2⟩ => ⟨h1, h2.below0⟩

end Go.Proofs.Ytidcmkmlcmjekaa.PA
