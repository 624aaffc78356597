/- The law QueryFirst, walked by hand. Conditions: the list and the text are no longer than the row has them. -/
import Derived.Test.YtidcmkmlcmjekaaZB
import Derived.Outline
import Derived.Lib.SliceRun
import Derived.Laws.Rows
import Derived.Laws.BytesArg
namespace Go.Proofs.Ytidcmkmlcmjekaa.PA
open Go.RowKit Go.Proofs.YtidcmkmlcmjekaaW.PrintWords Go.Proofs.YtidcmkmlcmjekaaW.PrintLast Go.Proofs.YtidcmkmlcmjekaaW.PrintMore Go.Proofs.Ytidcmkmlcmjekaa.Own
attribute [local go_sem] max2_int min2_int max_two min_two max_three min_three max_four min_four
set_option linter.unusedVariables false
set_option linter.unusedSimpArgs false
theorem great_c (A0 : Option Addr) (c0 : Nat) (l : List ByteArray) (n0 : Nat) (h0 : l.length = n0) (A1 : Option Addr) (c1 : Nat) (acts : List S37) (n1 : Nat) (h1 : acts.length = n1) (r : Bool) (w : World) (hr0 : Kd.C Kd.string w A0 l.length l) (hc0 : l.length ≤ c0) (hr1 : Kd.C k37 w A1 acts.length acts) (hc1 : acts.length ≤ c1) (h : gantletlaw18_great.f 600 l acts = some r) :
    Calls Try.prog 9 #[.slice A0 n0 c0, .slice A1 n1 c1] w fun e w' => e = .returned (.bool r) ∧ Below w.heap.size w w' := by
  subst h0 h1
  exact gantletlaw18_great.calls 600 A0 c0 l A1 c1 acts r w hr0 hc0 hr1 hc1 h
theorem all_c (A0 : Option Addr) (c0 : Nat) (l : List ByteArray) (n0 : Nat) (h0 : l.length = n0) (r : Bool) (w : World) (hr0 : Kd.C Kd.string w A0 l.length l) (hc0 : l.length ≤ c0) (hl : l.length ≤ 1000) (h : (l.all BNum.R && decide (l.length ≤ 64)) = r) :
    Calls Try.prog 11 #[.slice A0 n0 c0] w fun e w' => e = .returned (.bool r) ∧ Drawn0 w w' := by
  subst h0 h
  exact gantletref18_All.calls 2000 A0 c0 l _ w hr0 hc0 (BNum.all_ok l (by omega) 2000 (by omega))
theorem c_nil (w : World) : Kd.C k37 w none ([] : List S37).length [] := rc (Kd.R_nil k37 37 w 0 None0)
theorem cw {α : Type} {d : Kd α} {w W : World} {A : Option Addr} {n : Nat} {xs : List α} (h : Aside0 (Kd.C d w A n xs)) (hu : Upd None0 w W) : Kd.C d W A n xs := Kd.C_below h.out hu.below0
theorem made_row' (W : World) (n : Nat) (hn : Aside0 (n ≤ 1000)) : k43.R 43 (W.alloc (.cells (madeCells #[.bool false, .string ByteArray.empty] (n * 2)) 43)) 0 (New W None0) (.slice (some ⟨W.heap.size, 0, none⟩) (List.replicate n z43).length n) (List.replicate n z43) := by
  rw [List.length_replicate]; exact made_row W n hn.out
theorem mk_ans (xs : Nat) (hl : xs ≤ 1000) : ∀ W, (Instr.makeSlice 31 (.int .i64 (xs : Int)) (.int .i64 (xs : Int))).run Try.prog W = .ok (.slice (some ⟨W.heap.size, 0, none⟩) xs xs) (W.alloc (.cells (madeCells #[.bool false, .string ByteArray.empty] (xs * 2)) 43)) := by
  obtain ⟨i0, hi, hzz⟩ := Option.map_eq_some_iff.1 infoAns
  simp only [Prod.mk.injEq] at hzz
  obtain ⟨hz0, hz1, hz2⟩ := hzz
  intro W
  have hr := run_make (P := Try.prog) W 31 43 i0 (.agg #[.bool false, .string ByteArray.empty]) Try.underlying31 hi hz0 .i64 .i64 (xs : Int) (xs : Int) (by omega) (by omega) (by rw [hz2]; omega) (by omega)
  simp only [Int.toNat_natCast] at hr
  rw [hz1] at hr
  exact hr

/-- What is answered when one serial number comes with a date. -/
def one (serial a : ByteArray) (l : List ByteArray) : List S43 := l.map (fun s => if s = serial then ⟨true, a⟩ else z43)
theorem qd_first (serial a : ByteArray) (l : List ByteArray) (hl : ∀ s, s ∈ l → s.size ≤ 20) : qd l (List.replicate l.length z43) (bytesOf serial) true a = one serial a l := by
  have e : dateL serial a l (List.replicate l.length z43) = one serial a l := by
    unfold dateL one
    apply List.ext_getElem?
    intro i
    rw [List.getElem?_zipWith, List.getElem?_map, List.getElem?_replicate]
    by_cases h : i < l.length
    · rw [if_pos h, List.getElem?_eq_getElem h]
      simp only [Option.map_some, dateF]
      congr 1
      by_cases hs : l[i] = serial <;> simp [hs, z43]
    · rw [if_neg h, List.getElem?_eq_none (by omega)]; rfl
  unfold qd
  split
  · rw [Bs.nums_bytesOf, e]
  · rename_i h
    rw [← e]
    unfold dateL
    apply List.ext_getElem?
    intro i
    rw [List.getElem?_zipWith, List.getElem?_replicate]
    by_cases hi : i < l.length
    · rw [if_pos hi, List.getElem?_eq_getElem hi]
      simp only [dateF]
      rw [if_neg]
      rintro ⟨_, hs⟩
      apply h
      refine ⟨rfl, ?_⟩
      rw [bytesOf_length, ← hs]
      exact hl _ (List.getElem_mem hi)
    · rw [if_neg hi, List.getElem?_eq_none (by omega)]
theorem qd_again (serial a b : ByteArray) (l : List ByteArray) : qd l (one serial a l) (bytesOf serial) true b = one serial a l := by
  unfold qd
  split
  · rw [Bs.nums_bytesOf]
    unfold dateL one
    apply List.ext_getElem?
    intro i
    rw [List.getElem?_zipWith, List.getElem?_map]
    cases h : l[i]? with
    | none => rfl
    | some s =>
      simp only [Option.map_some, dateF]
      congr 1
      by_cases hs : s = serial <;> simp [hs]
  · rfl
theorem one_len (serial a : ByteArray) (l : List ByteArray) : l.length = (one serial a l).length := by unfold one; simp
theorem one_at (serial a : ByteArray) (l : List ByteArray) (i : Nat) (h : i < l.length) : (one serial a l).getD i z43 = if l[i] = serial then ⟨true, a⟩ else z43 := by
  unfold one
  rw [List.getD_eq_getElem?_getD, List.getElem?_map, List.getElem?_eq_getElem h]; rfl

set_option maxHeartbeats 16000000 in
set_option maxRecDepth 100000 in
theorem gantletlaw18_QueryFirst.any (A : Option Addr) (c : Nat) (l : List ByteArray) (serial a : ByteArray) (w : World) (hC : Kd.C Kd.string w A l.length l) (hc : l.length ≤ c) (hlb : l.length ≤ 8796093022080) (hsa : a.size ≤ 140737488351232) :
    Calls Try.prog 5 #[.slice A l.length c, .string serial, .string a] w fun e w' => e = .returned (.bool true) ∧ Upd None0 w w' := by
  have HU := Aside0.mk (Upd.refl None0 w)
  have HC := Aside0.mk hC
  have HCC := Aside0.mk hc
  have hu_ := Try.underlying43
  have HLB := Aside0.mk (show (([serial, a] : List ByteArray).length + l.length) * 16 ≤ 140737488355328 by simp; omega)
  obtain ⟨rg, hg, hgf⟩ := BNum.great_ok (serial :: a :: l) [] 600 (by decide)
  have HG := Aside0.mk hg
  clear hC hc hg hlb
  cases rg with
  | true =>
    clear hgf
    go_enter Try.func5, Try.ntmps5
    go_wp2_with (first
      | (go_at_call 8
         (with_reducible refine (awake_any _).mono ?_)
         rintro e wq ⟨rfl, hu⟩
         replace HU := Aside0.mk (((by exact ul HU) : Upd None0 w _).trans hu (fun _ h => h.elim))
         clear hu)
      | ((with_reducible refine gate_dst (N := 20) rfl ?_)
         refine gate_guard (by first | rfl | kernel_rfl) ?_
         refine row_lit Kd.string 9 rfl (N := 20) rfl (xs := [serial, a]) (inner := [.string serial, .string a]) ?hr (reps2 (c := [.string serial]) (d := [.string a]) rfl rfl rfl rfl) (by simp) ?_; (case hr => first | (go_simp; done) | (go_simp; rfl))
         intro v_e wl hr hu
         have R_e := Aside0.mk (row_mono hr (fun k h => h.elim (fun h => h.elim) (fun h => (.inr (Nat.le_trans ((by exact ul HU) : Upd None0 w _).size h) : New w None0 k))))
         
         replace HU := Aside0.mk (((by exact ul HU) : Upd None0 w _).trans hu (fun _ h => h.elim))
         clear hr hu)
      | ((with_reducible refine gate_builtin (b := .append) (xs := #[.tmp 20, .tmp 21]) rfl ?_); refine gate_guard (by first | rfl | kernel_rfl) ?_
         refine row_append_rows (Kd.string) (S := New w None0) rfl (.tmp 20) (.tmp 21) 22 9 (.string ByteArray.empty) 16 rfl Try.underlying22 infoStr rfl (by decide) (by omega) v_e [serial, a] l A l.length c rfl rfl ?aO ?aR ?aM ?aL (serial :: a :: l) rfl ?_
         (case aO => exact rl R_e); (case aR => exact cw HC (by exact ul HU)); (case aM => exact str_km _); (case aL => exact HLB.out)
         intro v_a wa ho hu
         obtain ⟨A_gl, c_gl, rfl⟩ := Kd.R_slice ho
         have R_gl := Aside0.mk (row_mono ho (fun k hk => hk.elim id (fun h => (.inr (Nat.le_trans ((by exact ul HU) : Upd None0 w _).size h) : New w None0 k))))
         replace HU := Aside0.mk (((by exact ul HU) : Upd None0 w _).trans hu (fun k hk => .inr ((row_at R_e.out hk).elim (fun h => h.elim) id)))
         clear ho hu)
      | (go_at_call 9
         (with_reducible refine (great_c A_gl c_gl (serial :: a :: l) (l.length + 2) rfl none 0 [] 0 rfl true _ (by exact rc (rl R_gl)) (Kd.R_reads' R_gl.out).2.1 (c_nil _) (Nat.le_refl _) HG.out).mono ?_)
         rintro e wq ⟨rfl, hb⟩
         replace HU := Aside0.mk (((by exact ul HU) : Upd None0 w _).trans (Upd.of_below hb : Upd None0 _ _) (fun _ h => h.elim))
         clear hb))
    go_ret
    exact ⟨rfl, HU.out⟩
  | false =>
  obtain ⟨hl, _, hsz, _⟩ := hgf rfl
  have hl2 : l.length ≤ 198 := by simp at hl; omega
  have HSZ := Aside0.mk (show ∀ x, x ∈ l → x.size ≤ 1000 from fun x hx => Nat.le_trans (hsz x (by simp [hx])) (by decide))
  have hss : serial.size ≤ 100 := hsz serial (by simp)
  have has : a.size ≤ 100 := hsz a (by simp)
  have HL3 := Aside0.mk (show l.length ≤ 1000 by omega)
  have HLM := Aside0.mk (show l.length ≤ 100000 by omega)
  have HLA := Aside0.mk (show (([] : List ByteArray).length + l.length) * 16 ≤ 140737488355328 by simp; omega)
  obtain ⟨ra, hra⟩ : ∃ r, (l.all BNum.R && decide (l.length ≤ 64)) = r := ⟨_, rfl⟩
  have HALL := Aside0.mk hra
  clear hgf hl hsz
  cases ra with
  | false =>
    clear hra
    go_enter Try.func5, Try.ntmps5
    go_wp2_with (first
      | (go_at_call 8
         (with_reducible refine (awake_any _).mono ?_)
         rintro e wq ⟨rfl, hu⟩
         replace HU := Aside0.mk (((by exact ul HU) : Upd None0 w _).trans hu (fun _ h => h.elim))
         clear hu)
      | ((with_reducible refine gate_dst (N := 20) rfl ?_)
         refine gate_guard (by first | rfl | kernel_rfl) ?_
         refine row_lit Kd.string 9 rfl (N := 20) rfl (xs := [serial, a]) (inner := [.string serial, .string a]) ?hr (reps2 (c := [.string serial]) (d := [.string a]) rfl rfl rfl rfl) (by simp) ?_; (case hr => first | (go_simp; done) | (go_simp; rfl))
         intro v_e wl hr hu
         have R_e := Aside0.mk (row_mono hr (fun k h => h.elim (fun h => h.elim) (fun h => (.inr (Nat.le_trans ((by exact ul HU) : Upd None0 w _).size h) : New w None0 k))))
         
         replace HU := Aside0.mk (((by exact ul HU) : Upd None0 w _).trans hu (fun _ h => h.elim))
         clear hr hu)
      | ((with_reducible refine gate_builtin (b := .append) (xs := #[.tmp 20, .tmp 21]) rfl ?_); refine gate_guard (by first | rfl | kernel_rfl) ?_
         refine row_append_rows (Kd.string) (S := New w None0) rfl (.tmp 20) (.tmp 21) 22 9 (.string ByteArray.empty) 16 rfl Try.underlying22 infoStr rfl (by decide) (by omega) v_e [serial, a] l A l.length c rfl rfl ?aO ?aR ?aM ?aL (serial :: a :: l) rfl ?_
         (case aO => exact rl R_e); (case aR => exact cw HC (by exact ul HU)); (case aM => exact str_km _); (case aL => exact HLB.out)
         intro v_a wa ho hu
         obtain ⟨A_gl, c_gl, rfl⟩ := Kd.R_slice ho
         have R_gl := Aside0.mk (row_mono ho (fun k hk => hk.elim id (fun h => (.inr (Nat.le_trans ((by exact ul HU) : Upd None0 w _).size h) : New w None0 k))))
         replace HU := Aside0.mk (((by exact ul HU) : Upd None0 w _).trans hu (fun k hk => .inr ((row_at R_e.out hk).elim (fun h => h.elim) id)))
         clear ho hu)
      | (go_at_call 9
         (with_reducible refine (great_c A_gl c_gl (serial :: a :: l) (l.length + 2) rfl none 0 [] 0 rfl false _ (by exact rc (rl R_gl)) (Kd.R_reads' R_gl.out).2.1 (c_nil _) (Nat.le_refl _) HG.out).mono ?_)
         rintro e wq ⟨rfl, hb⟩
         replace HU := Aside0.mk (((by exact ul HU) : Upd None0 w _).trans (Upd.of_below hb : Upd None0 _ _) (fun _ h => h.elim))
         clear hb)
      | (go_at_call 11
         (with_reducible refine (all_c A c l l.length rfl false _ (cw HC (by exact ul HU)) HCC.out HL3.out HALL.out).mono ?_)
         rintro e wq ⟨rfl, hb⟩
         replace HU := Aside0.mk (((by exact ul HU) : Upd None0 w _).trans (Upd.of_below hb.below : Upd None0 _ _) (fun _ h => h.elim))
         clear hb))
    go_ret
    exact ⟨by simp, HU.out⟩
  | true =>
  have H20 := Aside0.mk (show ∀ s, s ∈ l → s.size ≤ 20 from fun s hs => by
    simp only [Bool.and_eq_true, List.all_eq_true] at hra
    have := hra.1 s hs
    unfold BNum.R at this
    simp only [Bool.and_eq_true, decide_eq_true_eq] at this
    exact this.1.2)
  clear hra
  obtain ⟨a2, ha2⟩ : ∃ q, a ++ (⟨#[108, 97, 116, 101, 114]⟩ : ByteArray) = q := ⟨_, rfl⟩
  have hs3 : (serial.size : Int) ≤ 9223372036854775807 := by omega
  have hsum : a.size + (⟨#[108, 97, 116, 101, 114]⟩ : ByteArray).size ≤ 9223372036854775807 := by show a.size + 5 ≤ _; omega
  have hsum2 : a.size + 5 ≤ 9223372036854775807 := by omega
  have HSS := Aside0.mk hss
  clear hss has hsa
  go_enter Try.func5, Try.ntmps5
  go_wp2_with (first
    | (go_at_call 8
       (with_reducible refine (awake_any _).mono ?_)
       rintro e wq ⟨rfl, hu⟩
       replace HU := Aside0.mk (((by exact ul HU) : Upd None0 w _).trans hu (fun _ h => h.elim))
       clear hu)
    | ((with_reducible refine gate_dst (N := 20) rfl ?_)
       refine gate_guard (by first | rfl | kernel_rfl) ?_
       refine row_lit Kd.string 9 rfl (N := 20) rfl (xs := [serial, a]) (inner := [.string serial, .string a]) ?hr (reps2 (c := [.string serial]) (d := [.string a]) rfl rfl rfl rfl) (by simp) ?_; (case hr => first | (go_simp; done) | (go_simp; rfl))
       intro v_e wl hr hu
       have R_e := Aside0.mk (row_mono hr (fun k h => h.elim (fun h => h.elim) (fun h => (.inr (Nat.le_trans ((by exact ul HU) : Upd None0 w _).size h) : New w None0 k))))
       
       replace HU := Aside0.mk (((by exact ul HU) : Upd None0 w _).trans hu (fun _ h => h.elim))
       clear hr hu)
    | ((with_reducible refine gate_builtin (b := .append) (xs := #[.tmp 20, .tmp 21]) rfl ?_); refine gate_guard (by first | rfl | kernel_rfl) ?_
       refine row_append_rows (Kd.string) (S := New w None0) rfl (.tmp 20) (.tmp 21) 22 9 (.string ByteArray.empty) 16 rfl Try.underlying22 infoStr rfl (by decide) (by omega) v_e [serial, a] l A l.length c rfl rfl ?aO ?aR ?aM ?aL (serial :: a :: l) rfl ?_
       (case aO => exact rl R_e); (case aR => exact cw HC (by exact ul HU)); (case aM => exact str_km _); (case aL => exact HLB.out)
       intro v_a wa ho hu
       obtain ⟨A_gl, c_gl, rfl⟩ := Kd.R_slice ho
       have R_gl := Aside0.mk (row_mono ho (fun k hk => hk.elim id (fun h => (.inr (Nat.le_trans ((by exact ul HU) : Upd None0 w _).size h) : New w None0 k))))
       replace HU := Aside0.mk (((by exact ul HU) : Upd None0 w _).trans hu (fun k hk => .inr ((row_at R_e.out hk).elim (fun h => h.elim) id)))
       clear ho hu)
    | (go_at_call 9
       (with_reducible refine (great_c A_gl c_gl (serial :: a :: l) (l.length + 2) rfl none 0 [] 0 rfl false _ (by exact rc (rl R_gl)) (Kd.R_reads' R_gl.out).2.1 (c_nil _) (Nat.le_refl _) HG.out).mono ?_)
       rintro e wq ⟨rfl, hb⟩
       replace HU := Aside0.mk (((by exact ul HU) : Upd None0 w _).trans (Upd.of_below hb : Upd None0 _ _) (fun _ h => h.elim))
       clear hb)
    | (go_at_call 11
       (with_reducible refine (all_c A c l l.length rfl true _ (cw HC (by exact ul HU)) HCC.out HL3.out HALL.out).mono ?_)
       rintro e wq ⟨rfl, hb⟩
       replace HU := Aside0.mk (((by exact ul HU) : Upd None0 w _).trans (Upd.of_below hb.below : Upd None0 _ _) (fun _ h => h.elim))
       clear hb)
    | ((with_reducible refine gate_dst (N := 32) rfl ?_)
       refine row_lit Kd.string 9 rfl (N := 32) rfl (xs := ([] : List ByteArray)) (inner := []) ?hr (Reps.none _ _) (by simp) ?_; (case hr => first | (go_simp; done) | (go_simp; rfl))
       intro v_e wl hr hu
       have R_e := Aside0.mk (row_mono hr (fun k h => h.elim (fun h => h.elim) (fun h => (.inr (Nat.le_trans ((by exact ul HU) : Upd None0 w _).size h) : New w None0 k))))
       
       replace HU := Aside0.mk (((by exact ul HU) : Upd None0 w _).trans hu (fun _ h => h.elim))
       clear hr hu)
    | ((with_reducible refine gate_builtin (b := .append) (xs := #[.tmp 32, .tmp 33]) rfl ?_); at_builtin
       refine row_append_rows (Kd.string) (S := New w None0) rfl (.tmp 32) (.tmp 33) 22 9 (.string ByteArray.empty) 16 rfl Try.underlying22 infoStr rfl (by decide) (by omega) v_e [] l A l.length c rfl rfl ?aO ?aR ?aM ?aL l rfl ?_
       (case aO => exact rl R_e); (case aR => exact cw HC (by exact ul HU)); (case aM => exact str_km _); (case aL => exact HLA.out)
       intro v_a wa ho hu
       obtain ⟨A_a, c_a, rfl⟩ := Kd.R_slice ho
       have R_a := Aside0.mk (row_mono ho (fun k hk => hk.elim id (fun h => (.inr (Nat.le_trans ((by exact ul HU) : Upd None0 w _).size h) : New w None0 k))))
       replace HU := Aside0.mk (((by exact ul HU) : Upd None0 w _).trans hu (fun k hk => .inr ((row_at R_e.out hk).elim (fun h => h.elim) id)))
       clear ho hu)
    | (go_at_call 10
       (with_reducible refine (q_newY A_a c_a l l.length rfl _ (by exact rc (rl R_a)) (Kd.R_reads' R_a.out).2.1 HSZ.out HALL.out).mono ?_)
       rintro e wn ⟨g, rfl, hs, hu⟩
       have P_q := Aside0.mk ((hs.mono (fun k h => h.elim (fun h => h.elim) (fun h => (.inr (Nat.le_trans ((by exact ul HU) : Upd None0 w _).size h) : New w None0 k)))).bnd)
       replace HU := Aside0.mk (((by exact ul HU) : Upd None0 w _).trans hu (fun _ h => h.elim))
       clear hs hu)
    | ((with_reducible refine gate_dst (N := 43) rfl ?_)
       refine row_lit Kd.string 9 rfl (N := 43) rfl (xs := [a, a2]) (inner := [.string a, .string a2]) ?hr (reps2 (c := [.string a]) (d := [.string a2]) rfl rfl rfl rfl) (by simp) ?_; (case hr => first | (go_simp; done) | (go_simp; rfl))
       intro v_d wD hr hu
       obtain ⟨A_d, c_d, rfl⟩ := Kd.R_slice hr
       have HCD := Aside0.mk (show ∀ W, Upd (Bnd wn [52, 9, 43] (New w None0)) wD W → Kd.C Kd.string W A_d ([a, a2] : List ByteArray).length [a, a2] from fun W hW => rc (row_upd hr hW (fun k hk hs => hk.elim (fun h => h.elim) (fun h => absurd hs.2.1 (Nat.not_lt.2 (Nat.le_trans (lu : Upd None0 wn _).size h))))))
       replace P_q := Aside0.mk (Qs.updN (by exact P_q.out.updN lu) hu)
       replace HU := Aside0.mk (((by exact ul HU) : Upd None0 w _).trans hu (fun _ h => h.elim))
       clear hr hu))
  have HL := Aside0.mk (List.length_replicate (n := l.length) (a := z43))
  have HSW := Aside0.mk (show ∀ k, (Bnd wn [52, 9, 43] (New w None0)) k → w.heap.size ≤ k from fun k h => h.1.elim (fun h => h.elim) id)
  go_loopg [45] 2 (fun gk v45 wr => ∃ (i : Nat) (ans : List S43) (came : List Int) (bg : Bool), v45 = .int .i64 (i : Int) ∧ Aside0 (i ≤ 2 ∧ 2 - i ≤ gk ∧ (i = 0 → ans = List.replicate l.length z43) ∧ (0 < i → ans = one serial a l)) ∧ Aside0 (Qs wr (Bnd wn [52, 9, 43] (New w None0)) g l ans came bg) ∧ Aside0 (Upd (Bnd wn [52, 9, 43] (New w None0)) wD wr))
  case atStart => exact ⟨0, _, _, _, rfl, ⟨by omega, by omega, fun _ => rfl, fun h => by omega⟩, P_q, ⟨Upd.refl _ _⟩⟩
  case round =>
    clear P_q
    obtain ⟨i, ans, came, bgn, rfl, HI, P_q, HD⟩ := hrel
    obtain ⟨gko, hgko⟩ : ∃ q, q = gk := ⟨_, rfl⟩
    rw [← hgko] at HI
    have hi0 : (0 : Int) ≤ (i : Int) := by omega
    have him : (i : Int) ≤ 2 := by have := HI.out.1; omega
    have HLQ := Aside0.mk (show l.length = ans.length by
      obtain ⟨_, _, h0, h1⟩ := HI.out
      by_cases h : i = 0
      · rw [h0 h]; simp
      · rw [h1 (by omega)]; exact one_len _ _ _)
    by_cases hlt : i < 2
    · have hltd : decide ((i : Int) < 2) = true := decide_eq_true (by omega)
      have hlti : (i : Int) < (([a, a2] : List ByteArray).length : Int) := by simp; omega
      obtain ⟨ad, e1, hx⟩ := Kd.at_string (HCD.out wr HD.out) (i : Int) hi0 hlti
      subst e1
      obtain ⟨dd, hdd⟩ : ∃ x, rdOf ByteArray.empty [a, a2] (i : Int) = x := ⟨_, rfl⟩
      rw [hdd] at hx
      have hxn : wr.cell? (ad.add i) = some (.string dd) := by simpa using hx
      have HN := Aside0.mk (show qd l ans (bytesOf serial) true dd = one serial a l by
        obtain ⟨_, _, h0, h1⟩ := HI.out
        by_cases h : i = 0
        · rw [h0 h, ← hdd, h]
          exact qd_first serial a l H20.out
        · rw [h1 (by omega)]
          exact qd_again serial a dd l)
      clear hx hdd
      go_wp2_with (first
        | (go_at_call 15
           (with_reducible refine (q_begin g _ _ _ _ _ _ P_q.out).mono ?_)
           rintro e wq ⟨rfl, hs, hu⟩
           replace HD := Aside0.mk (HD.out.trans hu (fun k hk => .inl hk))
           clear P_q hu; have P_q := Aside0.mk hs; clear hs))
      go_loopg [53] serial.size (fun gk v53 wr => ∃ (j : Nat), v53 = .int .i64 (j : Int) ∧ Aside0 (j ≤ serial.size ∧ serial.size - j ≤ gk) ∧ Aside0 (Qs wr (Bnd wn [52, 9, 43] (New w None0)) g l ans ((bytesOf serial).take j) true) ∧ Aside0 (Upd (Bnd wn [52, 9, 43] (New w None0)) wD wr))
      case atStart => exact ⟨0, rfl, ⟨Nat.zero_le _, by omega⟩, P_q, HD⟩
      case round =>
        clear P_q HD hxn
        obtain ⟨j, rfl, JI, P_q, HD⟩ := hrel
        have hj0 : (0 : Int) ≤ (j : Int) := by omega
        have hjm : (j : Int) ≤ 100 := by have := JI.out.1; have := HSS.out; omega
        by_cases hlj : j < serial.size
        · have hljd : decide ((j : Int) < (serial.size : Int)) = true := decide_eq_true (by omega)
          have hlji : (j : Int) < (serial.size : Int) := by omega
          obtain ⟨b, hb⟩ : ∃ q, bt serial (j : Int) = q := ⟨_, rfl⟩
          have hbx : ∀ h : j < serial.size, (((serial[j]'h).toNat : Nat) : Int) = b := by rw [← hb]; exact bt_at serial (j : Int)
          have HTK := Aside0.mk (take_next serial j hlj)
          rw [hb] at HTK
          clear hb
          go_wp2_with (first
            | (go_at_call 16
               (with_reducible refine (q_push g _ _ _ _ _ _ P_q.out b).mono ?_)
               rintro e wq ⟨rfl, hs, hu⟩
               replace HD := Aside0.mk (HD.out.trans hu (fun k hk => .inl hk))
               clear P_q hu; have P_q := Aside0.mk hs; clear hs))
          go_roundg (gk - 1)
          case measure => have := JI.out.2; omega
          case rel => exact ⟨j + 1, by simp, ⟨by omega, by have := JI.out.2; omega⟩, ⟨by rw [HTK.out]; exact P_q.out⟩, HD⟩
        have hljd : decide ((j : Int) < (serial.size : Int)) = false := decide_eq_false (by omega)
        have htk : (bytesOf serial).take j = bytesOf serial := List.take_of_length_le (by rw [bytesOf_length]; omega)
        rw [htk] at P_q
        go_wp2_with (first
          | (go_at_call 17
             (with_reducible refine (q_dateD g _ _ _ _ _ _ P_q.out dd HLQ.out HLM.out).mono ?_)
             rintro e wq ⟨rfl, hs, hu, -⟩
             replace HD := Aside0.mk (HD.out.trans hu (fun k hk => .inl hk))
             clear P_q hu; have P_q := Aside0.mk hs; clear hs))
        go_roundg (gko - 1)
        case measure => have := HI.out.2.1; omega
        case rel =>
          have h := P_q.out
          rw [HN.out] at h
          exact ⟨i + 1, _, _, _, by simp, ⟨by omega, by have := HI.out.2.1; omega, fun h => by omega, fun _ => rfl⟩, ⟨h⟩, HD⟩
    · have hltd : decide ((i : Int) < 2) = false := decide_eq_false (by omega)
      have hon : ans = one serial a l := HI.out.2.2.2 (by omega)
      subst hon
      have HON := Aside0.mk (one_len serial a l).symm
      go_wp2_with (first
        | (go_at_call 13
           (with_reducible refine (q_answersN g _ _ _ _ _ _ P_q.out l.length HON.out HLM.out).mono ?_)
           rintro e wa ⟨A_s, c_s, rfl, hr, hu⟩
           have R_s := Aside0.mk hr
           have UA := Aside0.mk (HD.out.trans hu (fun _ h => h.elim))
           clear hr hu))
      have CS := Aside0.mk (rc R_s.out)
      clear P_q
      go_loopg [70] l.length (fun gk v70 wr => ∃ (j : Nat), v70 = .int .i64 (j : Int) ∧ Aside0 (j ≤ l.length ∧ l.length - j ≤ gk) ∧ Aside0 (Upd None0 wa wr))
      case atStart => exact ⟨0, rfl, ⟨Nat.zero_le _, by omega⟩, ⟨Upd.refl _ _⟩⟩
      case round =>
        obtain ⟨j, rfl, JI, UR⟩ := hrel
        have hj0 : (0 : Int) ≤ (j : Int) := by omega
        have hjm : (j : Int) ≤ 1000 := by have := JI.out.1; have := HL3.out; omega
        by_cases hlj : j < l.length
        case neg =>
          have hljd : decide ((j : Int) < (l.length : Int)) = false := decide_eq_false (by omega)
          go_wp2
          go_ret
          exact ⟨by simp, HU.out.trans (UA.out.trans UR.out (fun _ h => h.elim)) (fun k h => .inr (HSW.out k h))⟩
        have hljd : decide ((j : Int) < (l.length : Int)) = true := decide_eq_true (by omega)
        have hljg : decide ((l.length : Int) ≤ (j : Int)) = false := decide_eq_false (by omega)
        have hlji : (j : Int) < (l.length : Int) := by omega
        have hw0 : Upd None0 w wr := HU.out.trans (UA.out.trans UR.out (fun _ h => h.elim)) (fun k h => .inr (HSW.out k h))
        obtain ⟨ad, e1, hx⟩ := Kd.at_string (cw HC hw0) (j : Int) hj0 hlji
        subst e1
        obtain ⟨s, hs⟩ : ∃ s, l[j] = s := ⟨_, rfl⟩
        have hxl : wr.cell? (ad.add j) = some (.string s) := by
          rw [← hs]
          have : rdOf ByteArray.empty l (j : Int) = l[j] := by simp [rdOf, hlj]
          rw [← this]; simpa using hx
        have hoj := one_at serial a l j hlj
        rw [hs] at hoj
        obtain ⟨ads, e2, hc0, hc1⟩ := at_T43 (cw CS UR.out) (j : Int) hj0 (by rw [← one_len]; exact hlji)
        subst e2
        have hrd : rd_T43 (one serial a l) (j : Int) = (one serial a l).getD j z43 := by simp [rd_T43]
        rw [hrd, hoj, Int.toNat_natCast] at hc0 hc1
        clear hx hs hoj hrd hw0
        by_cases hss : s = serial
        · subst hss
          rw [if_pos rfl] at hc0 hc1
          go_wp2
          go_roundg (gk - 1)
          case measure => have := JI.out.2; omega
          case rel => exact ⟨j + 1, by simp, ⟨by omega, by have := JI.out.2; omega⟩, UR⟩
        · rw [if_neg hss] at hc0 hc1
          have hd0 : wr.cell? (ads.add (j * 2)) = some (.bool false) := hc0
          have hd1 : wr.cell? ⟨(ads.add (j * 2)).block, (ads.add (j * 2)).off + 1, none⟩ = some (.string ⟨#[]⟩) := hc1
          have hse1 : (s.toList == serial.toList) = false := beq_eq_false_iff_ne.2 (fun h => hss (ByteArray.ext (Array.ext' (by rw [← Lib.toList_data s, ← Lib.toList_data serial, h]))))
          clear hss hc0 hc1
          go_wp2
          go_roundg (gk - 1)
          case measure => have := JI.out.2; omega
          case rel => exact ⟨j + 1, by simp, ⟨by omega, by have := JI.out.2; omega⟩, UR⟩

def gantletlaw18_QueryFirst.f (l : List ByteArray) (s a : ByteArray) : Option Bool := if l.length * 16 ≤ 140737488351232 ∧ a.size ≤ 140737488351232 then some true else none
theorem gantletlaw18_QueryFirst.calls (A : Option Addr) (c : Nat) (l : List ByteArray) (s a : ByteArray) (r : Bool) (w : World) (hC : Kd.C Kd.string w A l.length l) (hc : l.length ≤ c) (h : gantletlaw18_QueryFirst.f l s a = some r) :
    Calls Try.prog 5 #[.slice A l.length c, .string s, .string a] w fun e w' => e = .returned (.bool r) ∧ Below w.heap.size w w' := by
  unfold gantletlaw18_QueryFirst.f at h
  by_cases hz : l.length * 16 ≤ 140737488351232 ∧ a.size ≤ 140737488351232
  · rw [if_pos hz] at h
    obtain rfl := Option.some.inj h
    exact (gantletlaw18_QueryFirst.any A c l s a w hC hc (by omega) hz.2).mono fun e w' ⟨h1, h2⟩ => ⟨h1, h2.below0⟩
  · rw [if_neg hz] at h
    exact absurd h (by simp)

end Go.Proofs.Ytidcmkmlcmjekaa.PA
