/- The reference for events: lists that lie still, a leaf, and its element as a function. -/
import Derived.Test.YtomaajagncjiiaaPCx0
import Derived.Test.YtomaajagncjiiaaPCx12
import Derived.Test.YtomaajagncjiiaaPCx6p1
import Derived.Test.YtomaajagncjiiaaOwn
import Derived.Test.YtomaajagncjiiaaMHd
import Derived.Test.YtomaajagncjiiaaMMx
import Derived.Outline
namespace Go.Proofs.Ytomaajagncjiiaa.PC
open Go.RowKit Go.Proofs.YtomaajagncjiiaaW.PrintWords Go.Proofs.YtomaajagncjiiaaW.PrintLast Go.Proofs.YtomaajagncjiiaaW.PrintMore Go.Proofs.Ytomaajagncjiiaa.Own
attribute [local go_sem] max2_int min2_int max_two min_two max_three min_three max_four min_four
set_option linter.unusedVariables false
set_option linter.unusedSimpArgs false
/-- A list of events that lies where only its own kind lies: what turns elsewhere leaves it. -/
def Cs (w : World) (A : Option Addr) (xs : List Ev) : Prop := ∀ W, Upd (fun k => ∃ cs t, t ≠ 36 ∧ w.heap[k]? = some (.cells cs t (0, 0))) w W → Kd.C k36 W A xs.length xs
theorem Cs.upd {w W : World} {T : Nat → Prop} {A : Option Addr} {xs : List Ev} (h : Cs w A xs) (hu : Upd T w W) (hT : ∀ k, T k → ∃ cs t, t ≠ 36 ∧ w.heap[k]? = some (.cells cs t (0, 0))) : Cs W A xs := fun W2 h2 => h W2 ((hu.mono hT).trans h2 (fun k hk => by
  obtain ⟨cs, t, ht, hk⟩ := hk
  by_cases hlt : k < w.heap.size
  · by_cases hTk : T k
    · exact .inl (hT k hTk)
    · exact .inl ⟨cs, t, ht, by rw [← hu.block k hlt hTk]; exact hk⟩
  · exact .inr (by omega)))
theorem Cs.updN {w W : World} {A : Option Addr} {xs : List Ev} (h : Cs w A xs) (hu : Upd None0 w W) : Cs W A xs := h.upd hu (fun _ h => h.elim)
theorem Cs.updT {w W : World} {A : Option Addr} {xs : List Ev} (h : Cs w A xs) {g t : Nat} {cs : Array Value} (hb : w.heap[g]? = some (.cells cs t (0, 0))) (ht : ∀ q, q ∈ [36] → q ≠ t) (hu : Upd (fun k => k = g) w W) : Cs W A xs := h.upd hu (fun k hk => ⟨cs, t, fun e => ht 36 (by simp) e.symm, by rw [hk]; exact hb⟩)
theorem Cs.drew {w : World} {A : Option Addr} {xs : List Ev} (h : Cs w A xs) : Cs w.drew A xs := h.updN (Upd.drew (Upd.refl None0 w))
theorem Cs.drewN {w : World} {A : Option Addr} {xs : List Ev} (h : Cs w A xs) (n : Nat) : Cs (w.drewN n) A xs := h.updN (Upd.drewN (Upd.refl None0 w) n)
theorem Cs.alloc {w : World} {A : Option Addr} {xs : List Ev} (h : Cs w A xs) (o : Obj) : Cs (w.alloc o) A xs := h.updN (Upd.alloc (Upd.refl None0 w) o)
theorem Cs.now {w : World} {A : Option Addr} {xs : List Ev} (h : Cs w A xs) : Kd.C k36 w A xs.length xs := h w (Upd.refl _ _)
theorem cs_row {w : World} {b : Nat} {S : Nat → Prop} {v : Value} {xs : List Ev} (h : k36.R 36 w b S v xs) : ∃ A c, v = .slice A xs.length c ∧ xs.length ≤ c ∧ Cs w A xs := by
  obtain ⟨A, c, rfl, hc, _⟩ := Kd.R_reads h
  refine ⟨A, c, rfl, hc, fun W hu => ?_⟩
  have h2 := row_upd (Bnd.row (Kd.R_lower h (Nat.zero_le _)) (E := 36 :: k36.E) (fun _ h => h)) hu (fun k h1 h2 => by
    obtain ⟨cs, t, ht, hk⟩ := h2
    obtain ⟨_, cs2, q, hq, hk2⟩ := h1
    have hh : ∀ q, q ∈ 36 :: k36.E → q = 36 := by decide
    obtain ⟨cells, hk2⟩ := hk2
    rw [hk] at hk2
    simp only [Option.some.injEq, Obj.cells.injEq] at hk2
    exact ht (hk2.2.1.trans (hh q hq)))
  exact (Kd.R_reads' h2).2.2
theorem results_c {P : Program} {fn : Func} {p : Tmp} {ty : TypeId} (h : fn.results = #[.cell p ty]) (tmps : Array Value) (w : World) (g : Nat) (t : TypeId) (cs : Array Value) (fr : Nat × Nat) (d : TypeDesc)
    (hp : tmps.getD p undef = .pointer (some ⟨g, 0, none⟩)) (hg : w.heap[g]? = some (.cells cs t fr))
    (hu : P.underlying ty = some d) (hd : (match d with | .struct _ | .array _ _ => true | _ => false) = true) (hi : (P.info? ty).map (·.size) = some cs.size) :
    (results fn tmps).run P w = .ok (.agg cs) w := by
  have hp' : tmps[p]?.getD undef = .pointer (some ⟨g, 0, none⟩) := by simpa using hp
  simp [results, h, hp', asAddr, run_loadVar_row w g t ty cs fr d hg hu hd hi]
theorem and_any (A : Option Addr) (c : Nat) (l l2 : List Ev) (a1 a2 a3 a4 : Int) (a5 : Bool) (a6 a7 : Int) (w : World) (hC : Cs w A l) (hc : l.length ≤ c) (hl : l.length ≤ 1000000) (h2 : l ++ [⟨a1, a2, ⟨a3, a4, a5, a6⟩, a7⟩] = l2) :
    Calls Try.prog 35 #[.slice A l.length c, .agg #[.int .i64 a1, .int .i64 a2, .int .i64 a3, .int .i64 a4, .bool a5, .int .i64 a6, .int .u8 a7]] w fun e w' => ∃ A2 c2, e = .returned (.slice A2 l2.length c2) ∧ Cs w' A2 l2 ∧ l2.length ≤ c2 ∧ Below w.heap.size w w' := by
  subst h2
  refine (gantletref09_and.calls A c l a1 a2 a3 a4 a5 a6 a7 (l ++ [⟨a1, a2, ⟨a3, a4, a5, a6⟩, a7⟩]) w hC.now hc ?_).mono ?_
  · unfold gantletref09_and.f
    simp only [Option.bind_some, List.length_nil, List.nil_append, List.length_append, List.length_cons]
    rw [if_pos (by omega), if_pos (by omega)]
  · rintro e w' ⟨v, rfl, h, hb⟩
    obtain ⟨A2, c2, rfl, h1, h2⟩ := cs_row h
    exact ⟨A2, c2, rfl, h2, h1, hb⟩
def lfG (a : ByteArray) (fr n : Int) : Nat → Int → List Ev → List Ev × Int × Int
  | 0, _, l => (l ++ [ev 4 (fr + n - 1) h0 0], 0, fr + n)
  | g + 1, k, l => if (a.size : Int) ≤ fr + k then (l, 2, (a.size : Int)) else lfG a fr n g (k + 1) (l ++ [ev 3 (fr + k) h0 (bt a (fr + k))])
/-- A leaf's content, behind its head. -/
def lfM (a : ByteArray) (l : List Ev) (fr n : Int) : List Ev × Int × Int := if n = 0 then (l ++ [ev 4 (fr - 1) h0 0], 0, fr) else lfG a fr n n.toNat 0 l

set_option maxHeartbeats 8000000 in
set_option maxRecDepth 100000 in
theorem leaf_zero (a : ByteArray) (A : Option Addr) (c : Nat) (l : List Ev) (fr n : Int) (w : World) (hC : Cs w A l) (hc : l.length ≤ c) (hl : l.length ≤ 100000) (hs : a.size ≤ 700) (hf0 : 1 ≤ fr) (hf1 : fr ≤ a.size) (hn0 : 0 ≤ n) (hn1 : n ≤ 2305843009213693951) (hn : n = 0) :
    Calls Try.prog 34 #[.string a, .slice A l.length c, .int .i64 fr, .int .i64 n] w fun e w' => ∃ A2 c2, e = .returned (.agg #[.slice A2 (lfM a l fr n).1.length c2, .int .i64 (lfM a l fr n).2.1, .int .i64 (lfM a l fr n).2.2]) ∧ Cs w' A2 (lfM a l fr n).1 ∧ (lfM a l fr n).1.length ≤ c2 ∧ Below w.heap.size w w' := by
  obtain ⟨m, hm⟩ : ∃ q, l ++ [ev 4 (fr - 1) h0 0] = q := ⟨_, rfl⟩
  have X2 := Aside0.mk (show l ++ [(⟨4, fr - 1, ⟨0, 0, false, 0⟩, 0⟩ : Ev)] = m from hm)
  have P_l := Aside0.mk hC
  have LC := Aside0.mk hc
  have LL := Aside0.mk (show l.length ≤ 1000000 by omega)
  have HU := Aside0.mk (Upd.refl None0 w)
  have ef : lfM a l fr n = (m, 0, fr) := by unfold lfM; rw [if_pos hn, hm]
  rw [ef]
  have y1 : (n == 0) = true := beq_iff_eq.2 hn
  clear hC hc hl hm ef hn
  go_enter Try.func34, Try.ntmps34
  go_wp2_with (first
    | ((with_reducible refine gate_dst (N := 8) rfl ?_)
       refine boxnew ?hg (N := 8) ?hd (cs := #[.slice none 0 0, .int .i64 0, .int .i64 0]) (t := 29) ?hr ?_; (case hd => rfl); (case hg => rfl); (case hr => first | (go_simp; done) | (go_simp; rfl))
       intro g_t hge w1 hbox hu
       have GE_t := Aside0.mk (Nat.le_trans ((by exact ul HU) : Upd None0 w _).size hge)
       replace P_l := Aside0.mk (Cs.updN (by exact P_l.out.updN lu) hu)
       replace HU := Aside0.mk (((by exact ul HU) : Upd None0 w _).trans hu (fun _ h => h.elim))
       clear hu
       have B_t := Aside0.mk hbox; clear hbox hge
       have hc_t_0 := co B_t 0 (.slice none 0 0) rfl; have hc_t_1 := co B_t 1 (.int .i64 0) rfl; have hc_t_2 := co B_t 2 (.int .i64 0) rfl)
    | (go_at_call 35
       (with_reducible refine (and_any A c l _ 4 (fr - 1) 0 0 false 0 0 _ (by exact P_l.out.updN lu) LC.out LL.out X2.out).mono ?_)
       rintro e w2 ⟨A_m, c_m, rfl, hC2, hle2, hb⟩
       have hu := (Upd.of_below hb : Upd None0 _ _)
       replace B_t := Aside0.mk (hu.blk (by exact bl B_t) (fun h => h))
       replace P_l := Aside0.mk (Cs.updN (by exact P_l.out.updN lu) hu)
       replace HU := Aside0.mk (((by exact ul HU) : Upd None0 w _).trans hu (fun _ h => h.elim))
       clear hu
       have P_m := Aside0.mk hC2
       have L_m := Aside0.mk hle2
       clear hC2 hle2
       (try clear hc_t_0 hc_t_1 hc_t_2)
       have hc_t_0 := co B_t 0 (.slice none 0 0) rfl; have hc_t_1 := co B_t 1 (.int .i64 0) rfl; have hc_t_2 := co B_t 2 (.int .i64 0) rfl)
    | ((with_reducible refine gate_store (t := 29) (p := 8) (v := .tmp 18) rfl ?_)
       refine rowput rfl 29 (.tmp 8) (.tmp 18) rfl rfl g_t #[.slice A_m m.length c_m, .int .i64 0, .int .i64 fr] rfl rfl 29 #[.slice none 0 0, .int .i64 0, .int .i64 0] (by exact bl B_t) (by kernel_rfl) rfl (by simp [Value.oneCell']) ?_
       intro w3 hbox hu
       replace P_m := Aside0.mk (Cs.updT (by exact P_m.out.updN lu) (by exact bl B_t) (by decide) hu)
       replace HU := Aside0.mk (((by exact ul HU) : Upd None0 w _).trans hu (fun k hk => .inr (by rw [hk]; exact GE_t.out)))
       clear hu
       clear B_t; have B_t := Aside0.mk hbox; clear hbox
       (try clear hc_t_0 hc_t_1 hc_t_2)
       have hc_t_0 := co B_t 0 (.slice A_m m.length c_m) rfl; have hc_t_1 := co B_t 1 (.int .i64 0) rfl; have hc_t_2 := co B_t 2 (.int .i64 fr) rfl))
  refine bodyPost_ret (results_c rfl _ _ g_t 29 #[.slice A_m m.length c_m, .int .i64 0, .int .i64 fr] (0, 0) _ rfl (by exact bl B_t) Try.underlying29 rfl (by kernel_rfl)) rfl ?_
  exact ⟨_, _, rfl, P_m.out, L_m.out, HU.out.below0⟩
set_option maxHeartbeats 8000000 in
set_option maxRecDepth 100000 in
theorem leaf_loop (a : ByteArray) (A : Option Addr) (c : Nat) (l : List Ev) (fr n : Int) (w : World) (hC : Cs w A l) (hc : l.length ≤ c) (hl : l.length ≤ 100000) (hs : a.size ≤ 700) (hf0 : 1 ≤ fr) (hf1 : fr ≤ a.size) (hn0 : 0 ≤ n) (hn1 : n ≤ 2305843009213693951) (hn : ¬ n = 0) :
    Calls Try.prog 34 #[.string a, .slice A l.length c, .int .i64 fr, .int .i64 n] w fun e w' => ∃ A2 c2, e = .returned (.agg #[.slice A2 (lfM a l fr n).1.length c2, .int .i64 (lfM a l fr n).2.1, .int .i64 (lfM a l fr n).2.2]) ∧ Cs w' A2 (lfM a l fr n).1 ∧ (lfM a l fr n).1.length ≤ c2 ∧ Below w.heap.size w w' := by
  obtain ⟨⟨r1, r2, r3⟩, hr⟩ : ∃ q, lfG a fr n n.toNat 0 l = q := ⟨_, rfl⟩
  have P_l := Aside0.mk hC
  have HU := Aside0.mk (Upd.refl None0 w)
  have ef : lfM a l fr n = (r1, r2, r3) := by unfold lfM; rw [if_neg hn, hr]
  rw [ef]
  have y1 : (n == 0) = false := beq_eq_false_iff_ne.2 hn
  have hn2 : 0 < n := by omega
  have HR := Aside0.mk hr
  clear hC ef hn hr
  go_enter Try.func34, Try.ntmps34
  go_wp2_with (first
    | ((with_reducible refine gate_dst (N := 8) rfl ?_)
       refine boxnew ?hg (N := 8) ?hd (cs := #[.slice none 0 0, .int .i64 0, .int .i64 0]) (t := 29) ?hr ?_; (case hd => rfl); (case hg => rfl); (case hr => first | (go_simp; done) | (go_simp; rfl))
       intro g_t hge w1 hbox hu
       have GE_t := Aside0.mk (Nat.le_trans ((by exact ul HU) : Upd None0 w _).size hge)
       replace P_l := Aside0.mk (Cs.updN (by exact P_l.out.updN lu) hu)
       replace HU := Aside0.mk (((by exact ul HU) : Upd None0 w _).trans hu (fun _ h => h.elim))
       clear hu
       have B_t := Aside0.mk hbox; clear hbox hge
       have hc_t_0 := co B_t 0 (.slice none 0 0) rfl; have hc_t_1 := co B_t 1 (.int .i64 0) rfl; have hc_t_2 := co B_t 2 (.int .i64 0) rfl))
  go_loopg [1, 9] n.toNat (fun gk v1 v9 wr => ∃ (k : Nat) (xs : List Ev) (A1 : Option Addr) (c1 : Nat), v1 = .slice A1 xs.length c1 ∧ v9 = .int .i64 (k : Int) ∧ Aside0 (lfG a fr n gk (k : Int) xs = (r1, r2, r3) ∧ (k : Int) + gk = n ∧ fr + k ≤ a.size ∧ xs.length ≤ 100000 + k ∧ xs.length ≤ c1) ∧ Aside0 (Cs wr A1 xs) ∧ Aside0 (wr.heap[g_t]? = some (.cells #[.slice none 0 0, .int .i64 0, .int .i64 0] 29 (0, 0))) ∧ Aside0 (Upd None0 w wr))
  case atStart => exact ⟨0, l, A, c, rfl, rfl, ⟨HR.out, by omega, by simpa using hf1, by simpa using hl, hc⟩, P_l, B_t, HU⟩
  case round =>
    clear P_l HU B_t
    obtain ⟨k, xs, A1, c1, rfl, rfl, HI, P_l, B_t, HU⟩ := hrel
    have hk0 : 0 ≤ (k : Int) := by omega
    have hkm : (k : Int) ≤ 700 := by have := HI.out.2.2.1; omega
    have hkf : fr + (k : Int) ≤ 700 := by have := HI.out.2.2.1; omega
    have hf2 : fr ≤ 700 := by omega
    cases gk with
    | zero =>
      have hlt : decide ((k : Int) < n) = false := decide_eq_false (by have := HI.out.2.1; omega)
      have hkn : (k : Int) = n := by have := HI.out.2.1; omega
      have h9 := HI.out.1
      simp only [lfG, Prod.mk.injEq] at h9
      obtain ⟨e1, e2, e3⟩ := h9
      subst e2 e3
      have X2 := Aside0.mk (show xs ++ [(⟨4, fr + n - 1, ⟨0, 0, false, 0⟩, 0⟩ : Ev)] = r1 from e1)
      have LL := Aside0.mk (show xs.length ≤ 1000000 by have := HI.out.2.2.2.1; omega)
      have LC := Aside0.mk HI.out.2.2.2.2
      have hn3 : n ≤ 700 := by omega
      clear e1
      go_wp2_with (first
        | (go_at_call 35
           (with_reducible refine (and_any A1 c1 xs _ 4 (fr + n - 1) 0 0 false 0 0 _ (by exact P_l.out.updN lu) LC.out LL.out X2.out).mono ?_)
           rintro e w1 ⟨A_m, c_m, rfl, hC2, hle2, hb⟩
           have hu := (Upd.of_below hb : Upd None0 _ _)
           replace B_t := Aside0.mk (hu.blk (by exact bl B_t) (fun h => h))
           replace P_l := Aside0.mk (Cs.updN (by exact P_l.out.updN lu) hu)
           replace HU := Aside0.mk (((by exact ul HU) : Upd None0 w _).trans hu (fun _ h => h.elim))
           clear hu
           have P_m := Aside0.mk hC2
           have L_m := Aside0.mk hle2
           clear hC2 hle2
           have hc_t_0 := co B_t 0 (.slice none 0 0) rfl; have hc_t_1 := co B_t 1 (.int .i64 0) rfl; have hc_t_2 := co B_t 2 (.int .i64 0) rfl)
        | ((with_reducible refine gate_store (t := 29) (p := 8) (v := .tmp 55) rfl ?_)
           refine rowput rfl 29 (.tmp 8) (.tmp 55) rfl rfl g_t #[.slice A_m r1.length c_m, .int .i64 0, .int .i64 (fr + n)] rfl rfl 29 #[.slice none 0 0, .int .i64 0, .int .i64 0] (by exact bl B_t) (by kernel_rfl) rfl (by simp [Value.oneCell']) ?_
           intro w2 hbox hu
           replace P_m := Aside0.mk (Cs.updT (by exact P_m.out.updN lu) (by exact bl B_t) (by decide) hu)
           replace HU := Aside0.mk (((by exact ul HU) : Upd None0 w _).trans hu (fun k hk => .inr (by rw [hk]; exact GE_t.out)))
           clear hu
           clear B_t; have B_t := Aside0.mk hbox; clear hbox
           (try clear hc_t_0 hc_t_1 hc_t_2)
           have hc_t_0 := co B_t 0 (.slice A_m r1.length c_m) rfl; have hc_t_1 := co B_t 1 (.int .i64 0) rfl; have hc_t_2 := co B_t 2 (.int .i64 (fr + n)) rfl))
      refine bodyPost_ret (results_c rfl _ _ g_t 29 #[.slice A_m r1.length c_m, .int .i64 0, .int .i64 (fr + n)] (0, 0) _ rfl (by exact bl B_t) Try.underlying29 rfl (by kernel_rfl)) rfl ?_
      exact ⟨_, _, rfl, P_m.out, L_m.out, HU.out.below0⟩

    | succ gk =>
      have hlt : decide ((k : Int) < n) = true := decide_eq_true (by have := HI.out.2.1; omega)
      have h9 := HI.out.1
      simp only [lfG] at h9
      by_cases hz : (a.size : Int) ≤ fr + (k : Int)
      · rw [if_pos hz] at h9
        simp only [Prod.mk.injEq] at h9
        obtain ⟨rfl, rfl, rfl⟩ := h9
        have hz2 : decide ((a.size : Int) ≤ fr + (k : Int)) = true := decide_eq_true hz
        go_wp2_with (first
          | ((with_reducible refine gate_store (t := 29) (p := 8) (v := .tmp 33) rfl ?_)
             refine rowput rfl 29 (.tmp 8) (.tmp 33) rfl rfl g_t #[.slice A1 xs.length c1, .int .i64 2, .int .i64 (a.size : Int)] rfl rfl 29 #[.slice none 0 0, .int .i64 0, .int .i64 0] (by exact bl B_t) (by kernel_rfl) rfl (by simp [Value.oneCell']) ?_
             intro w1 hbox hu
             replace P_l := Aside0.mk (Cs.updT (by exact P_l.out.updN lu) (by exact bl B_t) (by decide) hu)
             replace HU := Aside0.mk (((by exact ul HU) : Upd None0 w _).trans hu (fun k hk => .inr (by rw [hk]; exact GE_t.out)))
             clear hu
             clear B_t; have B_t := Aside0.mk hbox; clear hbox
             have hc_t_0 := co B_t 0 (.slice A1 xs.length c1) rfl; have hc_t_1 := co B_t 1 (.int .i64 2) rfl; have hc_t_2 := co B_t 2 (.int .i64 (a.size : Int)) rfl))
        refine bodyPost_ret (results_c rfl _ _ g_t 29 #[.slice A1 xs.length c1, .int .i64 2, .int .i64 (a.size : Int)] (0, 0) _ rfl (by exact bl B_t) Try.underlying29 rfl (by kernel_rfl)) rfl ?_
        exact ⟨_, _, rfl, P_l.out, HI.out.2.2.2.2, HU.out.below0⟩
      · rw [if_neg hz] at h9
        have hz2 : decide ((a.size : Int) ≤ fr + (k : Int)) = false := decide_eq_false hz
        have hz3 : fr + (k : Int) < (a.size : Int) := by omega
        obtain ⟨b, hb⟩ : ∃ q, bt a (fr + (k : Int)) = q := ⟨_, rfl⟩
        have hbx : ∀ h : (fr + (k : Int)).toNat < a.size, (((a[(fr + (k : Int)).toNat]'h).toNat : Nat) : Int) = b := by rw [← hb]; exact bt_at a (fr + (k : Int))
        rw [hb] at h9
        obtain ⟨m, hm⟩ : ∃ q, xs ++ [ev 3 (fr + (k : Int)) h0 b] = q := ⟨_, rfl⟩
        rw [hm] at h9
        have H9 := Aside0.mk h9
        have X2 := Aside0.mk (show xs ++ [(⟨3, fr + (k : Int), ⟨0, 0, false, 0⟩, b⟩ : Ev)] = m from hm)
        have LL := Aside0.mk (show xs.length ≤ 1000000 by have := HI.out.2.2.2.1; omega)
        have LC := Aside0.mk HI.out.2.2.2.2
        have LM := Aside0.mk (show m.length = xs.length + 1 by rw [← hm]; simp)
        clear h9 hm hb
        go_wp2_with (first
          | (go_at_call 35
             (with_reducible refine (and_any A1 c1 xs _ 3 (fr + (k : Int)) 0 0 false 0 b _ (by exact P_l.out.updN lu) LC.out LL.out X2.out).mono ?_)
             rintro e w1 ⟨A_m, c_m, rfl, hC2, hle2, hb⟩
             have hu := (Upd.of_below hb : Upd None0 _ _)
             replace B_t := Aside0.mk (hu.blk (by exact bl B_t) (fun h => h))
             replace P_l := Aside0.mk (Cs.updN (by exact P_l.out.updN lu) hu)
             replace HU := Aside0.mk (((by exact ul HU) : Upd None0 w _).trans hu (fun _ h => h.elim))
             clear hu
             have P_m := Aside0.mk hC2
             have L_m := Aside0.mk hle2
             clear hC2 hle2
             have hc_t_0 := co B_t 0 (.slice none 0 0) rfl; have hc_t_1 := co B_t 1 (.int .i64 0) rfl; have hc_t_2 := co B_t 2 (.int .i64 0) rfl))
        go_roundg gk
        case measure => omega
        case rel => exact ⟨k + 1, m, A_m, c_m, rfl, by simp, ⟨by have := H9.out; simpa using this, by have := HI.out.2.1; omega, by omega, by have := LM.out; have := HI.out.2.2.2.1; omega, L_m.out⟩, P_m, B_t, HU⟩
theorem leaf_any (a : ByteArray) (A : Option Addr) (c : Nat) (l r1 : List Ev) (fr n r2 r3 : Int) (w : World) (hC : Cs w A l) (hc : l.length ≤ c) (hl : l.length ≤ 100000) (hs : a.size ≤ 700) (hf0 : 1 ≤ fr) (hf1 : fr ≤ a.size) (hn0 : 0 ≤ n) (hn1 : n ≤ 2305843009213693951) (h : lfM a l fr n = (r1, r2, r3)) :
    Calls Try.prog 34 #[.string a, .slice A l.length c, .int .i64 fr, .int .i64 n] w fun e w' => ∃ A2 c2, e = .returned (.agg #[.slice A2 r1.length c2, .int .i64 r2, .int .i64 r3]) ∧ Cs w' A2 r1 ∧ r1.length ≤ c2 ∧ Below w.heap.size w w' := by
  by_cases hn : n = 0
  · have := leaf_zero a A c l fr n w hC hc hl hs hf0 hf1 hn0 hn1 hn
    rw [h] at this
    exact this
  · have := leaf_loop a A c l fr n w hC hc hl hs hf0 hf1 hn0 hn1 hn
    rw [h] at this
    exact this

/-- An element of the reference, by the head that begins at a place (T); in its content by 'true'. -/
def elX (a : ByteArray) (T : Int → Int → Hd × Int × Int) (most : Int) : Nat → Bool → List Ev → Int → Int → Int → Option (List Ev × Int × Int)
  | 0, _, _, _, _, _ => none
  | g + 1, false, l, p, en, op =>
    if (T p en).2.2 ≠ 0 then some (l, (T p en).2.2, (T p en).2.1)
    else if 0 ≤ en ∧ en - ((T p en).2.1 + 1) < (T p en).1.f3 then some (l, 5, (T p en).2.1)
    else if (T p en).1.f2 = false then some (lfM a (l ++ [ev 2 (T p en).2.1 (T p en).1 0]) ((T p en).2.1 + 1) (T p en).1.f3)
    else if op = most then some (l, 10, (T p en).2.1)
    else elX a T most g true (l ++ [ev 1 (T p en).2.1 (T p en).1 0]) ((T p en).2.1 + 1) ((T p en).2.1 + 1 + (T p en).1.f3) op
  | g + 1, true, l, p, stop, op =>
    if p < stop then (elX a T most g false l p stop (op + 1)).bind fun t => if t.2.1 ≠ 0 then some t else elX a T most g true t.1 t.2.2 stop op
    else some (l ++ [ev 5 (p - 1) h0 0], 0, p)
/-- What a start function has to say. -/
def GoodT (a : ByteArray) (T : Int → Int → Hd × Int × Int) : Prop := ∀ p en : Int, 0 ≤ p → p ≤ a.size → (T p en).2.2 = 0 → p ≤ (T p en).2.1 ∧ (T p en).2.1 < a.size ∧ 0 ≤ (T p en).1.f3 ∧ (T p en).1.f3 ≤ 2305843009213693951
theorem lfG_len (a : ByteArray) (fr n : Int) : ∀ (g : Nat) (k : Int) (l : List Ev), (k + g = n) → fr + k ≤ a.size → (lfG a fr n g k l).2.1 = 0 → (lfG a fr n g k l).1.length = l.length + g + 1 ∧ (lfG a fr n g k l).2.2 = fr + n ∧ fr + n ≤ a.size
  | 0, k, l, hk, h1, _ => by
    have : k = n := by simpa using hk
    subst this
    simp [lfG]
    exact h1
  | g + 1, k, l, hk, h1, h => by
    unfold lfG at h ⊢
    split
    · rename_i hc; rw [if_pos hc] at h; simp at h
    · rename_i hc
      rw [if_neg hc] at h
      have := lfG_len a fr n g (k + 1) _ (by omega) (by omega) h
      simp only [List.length_append, List.length_cons, List.length_nil] at this
      exact ⟨by omega, this.2⟩
theorem lfM_len (a : ByteArray) (l : List Ev) (fr n : Int) (hn : 0 ≤ n) (hf : fr ≤ a.size) (h : (lfM a l fr n).2.1 = 0) : ((lfM a l fr n).1.length : Int) = l.length + n + 1 ∧ (lfM a l fr n).2.2 = fr + n ∧ fr + n ≤ a.size := by
  unfold lfM at h ⊢
  split
  · rename_i hc; subst hc; simp; omega
  · rename_i hc
    rw [if_neg hc] at h
    have := lfG_len a fr n n.toNat 0 l (by omega) (by omega) h
    exact ⟨by omega, this.2⟩
theorem elX_len (a : ByteArray) (T : Int → Int → Hd × Int × Int) (most : Int) (hT : GoodT a T) : ∀ (g : Nat) (b : Bool) (l : List Ev) (p en op d : Int) (r : List Ev × Int × Int), elX a T most g b l p en op = some r → 0 ≤ p → p ≤ a.size → r.2.1 = 0 → (l.length : Int) + d + (if b then 1 else 0) ≤ 3 * p → (r.1.length : Int) + d ≤ 3 * r.2.2 ∧ p ≤ r.2.2 ∧ (b = false → p < r.2.2) ∧ r.2.2 ≤ a.size
  | 0, _, _, _, _, _, _, _, h, _, _, _, _ => by simp [elX] at h
  | g + 1, false, l, p, en, op, d, r, h, h0, h1, hr, hl => by
    have hl : (l.length : Int) + d ≤ 3 * p := by simpa using hl
    have tt := hT p en h0 h1
    unfold elX at h
    by_cases c1 : (T p en).2.2 = 0
    · rw [if_neg (by simp [c1])] at h
      obtain ⟨t1, t2, t3, t4⟩ := tt c1
      split at h
      · simp only [Option.some.injEq] at h; subst h; simp at hr
      · split at h
        · simp only [Option.some.injEq] at h
          subst h
          have := lfM_len a _ _ _ t3 (by omega) hr
          simp only [List.length_append, List.length_cons, List.length_nil] at this
          refine ⟨by omega, by omega, fun _ => by omega, by omega⟩
        · split at h
          · simp only [Option.some.injEq] at h; subst h; simp at hr
          · have := elX_len a T most hT g true _ _ _ _ d r h (by omega) (by omega) hr (by simp only [List.length_append, List.length_cons, List.length_nil, if_true]; omega)
            exact ⟨this.1, by omega, fun _ => by omega, this.2.2.2⟩
    · rw [if_pos c1] at h
      simp only [Option.some.injEq] at h; subst h; exact absurd hr c1
  | g + 1, true, l, p, en, op, d, r, h, h0, h1, hr, hl => by
    have hl : (l.length : Int) + d + 1 ≤ 3 * p := by simpa using hl
    unfold elX at h
    split at h
    · obtain ⟨t, ht, h⟩ := Option.bind_eq_some_iff.mp h
      split at h
      · rename_i hc; simp only [Option.some.injEq] at h; subst h; exact absurd hr hc
      · rename_i hc
        have hc : t.2.1 = 0 := by simpa using hc
        have i1 := elX_len a T most hT g false l p en (op + 1) (d + 1) t ht h0 h1 hc (by simp; omega)
        have i2 := elX_len a T most hT g true t.1 t.2.2 en op d r h (by omega) (by omega) hr (by simp; omega)
        exact ⟨i2.1, by omega, fun h => by simp at h, i2.2.2.2⟩
    · simp only [Option.some.injEq] at h; subst h
      simp only [List.length_append, List.length_cons, List.length_nil]
      exact ⟨by omega, by omega, fun h => by simp at h, h1⟩
end Go.Proofs.Ytomaajagncjiiaa.PC
