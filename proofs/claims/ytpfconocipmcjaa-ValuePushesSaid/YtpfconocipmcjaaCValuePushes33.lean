/- What the row of ValuePushes stands on, made small by a program of this session (pack.py). -/
import Derived.Outline
import Derived.Test.YtpfconocipmcjaaCValuePushes2
import Derived.Test.YtpfconocipmcjaaCValuePushes3
import Derived.Test.YtpfconocipmcjaaCValuePushes11
import Derived.Test.YtpfconocipmcjaaCValuePushes13
import Derived.Test.YtpfconocipmcjaaCValuePushes18
import Derived.Test.YtpfconocipmcjaaCValuePushes19
import Derived.Test.YtpfconocipmcjaaCValuePushes31
import Derived.Test.YtpfconocipmcjaaCValuePushes32
namespace Go.Proofs.Ytpfconocipmcjaa.PC
open RowKit YtpfconocipmcjaaW.PrintWords YtpfconocipmcjaaW.PrintLast YtpfconocipmcjaaW.PrintMore Own
attribute [local go_sem] max2_int min2_int max_two min_two max_three min_three max_four min_four
set_option linter.unusedVariables false
set_option linter.unusedSimpArgs false
def Cs (w : World) (A : Option Addr) (xs : List Ev) : Prop := ∀ W, Upd (fun k => ∃ cs t, t ≠ 39 ∧ w.heap[k]? = some (.cells cs t (0, 0))) w W → Kd.C k39 W A xs.length xs
theorem Cs.upd {w W : World} {T : Nat → Prop} {A : Option Addr} {xs : List Ev} (h : Cs w A xs) (hu : Upd T w W) (hT : ∀ k, T k → ∃ cs t, t ≠ 39 ∧ w.heap[k]? = some (.cells cs t (0, 0))) : Cs W A xs := fun W2 h2 => h W2 ((hu.mono hT).trans h2 (fun k hk => by
 obtain ⟨cs, t, ht, hk⟩ := hk
 by_cases hlt : k < w.heap.size
 ·
  by_cases hTk : T k
  ·
   exact .inl (hT k hTk)
  ·
   exact .inl ⟨cs, t, ht, by rw [← hu.block k hlt hTk]; exact hk⟩
 ·
  exact .inr zz3))
theorem Cs.updN {w W : World} {A : Option Addr} {xs : List Ev} (h : Cs w A xs) (hu : Upd None0 w W) : Cs W A xs := h.upd hu (fun _ h => h.elim)
theorem Cs.updT {w W : World} {A : Option Addr} {xs : List Ev} (h : Cs w A xs) {g t : Nat} {cs : Array Value} (hb : w.heap[g]? = some (.cells cs t (0, 0))) (ht : ∀ q, q ∈ [39] → q ≠ t) (hu : Upd (fun k => k = g) w W) : Cs W A xs := h.upd hu (fun k hk => ⟨cs, t, fun e => ht 39 zz29 e.symm, by rw [hk]; exact hb⟩)
theorem Cs.drew {w : World} {A : Option Addr} {xs : List Ev} (h : Cs w A xs) : Cs w.drew A xs := h.updN (Upd.drew (Upd.refl None0 w))
theorem Cs.drewN {w : World} {A : Option Addr} {xs : List Ev} (h : Cs w A xs) (n : Nat) : Cs (w.drewN n) A xs := h.updN (Upd.drewN (Upd.refl None0 w) n)
theorem Cs.alloc {w : World} {A : Option Addr} {xs : List Ev} (h : Cs w A xs) (o : Obj) : Cs (w.alloc o) A xs := h.updN (Upd.alloc (Upd.refl None0 w) o)
theorem Cs.now {w : World} {A : Option Addr} {xs : List Ev} (h : Cs w A xs) : Kd.C k39 w A xs.length xs := h w (Upd.refl _ _)
theorem cs_row {w : World} {b : Nat} {S : Nat → Prop} {v : Value} {xs : List Ev} (h : k39.R 39 w b S v xs) : ∃ A c, v = .slice A xs.length c ∧ xs.length ≤ c ∧ Cs w A xs := by
 obtain ⟨A, c, rfl, hc, _⟩ := Kd.R_reads h
 refine ⟨A, c, rfl, hc, fun W hu => ?_⟩
 have h2 := row_upd (Bnd.row (Kd.R_lower h (Nat.zero_le _)) (E := 39 :: k39.E) (fun _ h => h)) hu (fun k h1 h2 => by
  obtain ⟨cs, t, ht, hk⟩ := h2
  obtain ⟨_, cs2, q, hq, hk2⟩ := h1
  have hh : ∀ q, q ∈ 39 :: k39.E → q = 39 := by decide
  obtain ⟨cells, hk2⟩ := hk2
  rw [hk] at hk2
  simp only [Option.some.injEq, Obj.cells.injEq] at hk2
  exact ht (hk2.2.1.trans (hh q hq)))
 exact (Kd.R_reads' h2).2.2
theorem results_c {P : Program} {fn : Func} {p : Tmp} {ty : TypeId} (h : fn.results = #[.cell p ty]) (tmps : Array Value) (w : World) (g : Nat) (t : TypeId) (cs : Array Value) (fr : Nat × Nat) (d : TypeDesc)
 (hp : tmps.getD p undef = .pointer (some ⟨g, 0, none⟩)) (hg : w.heap[g]? = some (.cells cs t fr))
 (hu : P.underlying ty = some d) (hd : (match d with | .struct _ | .array _ _ => true | _ => false) = true) (hi : (P.info? ty).map (·.size) = some cs.size) :
 (results fn tmps).run P w = .ok (.agg cs) w := by
 have hp' : tmps[p]?.getD undef = .pointer (some ⟨g, 0, none⟩) := by simpa using hp
 simp [results, h, hp', asAddr, run_loadVar_row w g t ty cs fr d hg hu hd hi]
theorem and_any (A : Option Addr) (c : Nat) (l l2 : List Ev) (a1 a2 a3 a4 : Int) (a5 : Bool) (a6 a7 : Int) (w : World) (hC : Cs w A l) (hc : l.length ≤ c) (hl : l.length ≤ 1000000) (h2 : l ++ [⟨a1, a2, ⟨a3, a4, a5, a6⟩, a7⟩] = l2) :
 Calls Try.prog 28 #[.slice A l.length c, .agg #[.int .i64 a1, .int .i64 a2, .int .i64 a3, .int .i64 a4, .bool a5, .int .i64 a6, .int .u8 a7]] w fun e w' => ∃ A2 c2, e = .returned (.slice A2 l2.length c2) ∧ Cs w' A2 l2 ∧ l2.length ≤ c2 ∧ Below w.heap.size w w' := by
 subst h2
 refine (gantletref09_and.calls A c l a1 a2 a3 a4 a5 a6 a7 (l ++ [⟨a1, a2, ⟨a3, a4, a5, a6⟩, a7⟩]) w hC.now hc ?_).mono ?_
 ·
  unfold gantletref09_and.f
  simp only [Option.bind_some, List.length_nil, List.nil_append, List.length_append, List.length_cons]
  rw [if_pos zz3, if_pos zz3]
 ·
  rintro e w' ⟨v, rfl, h, hb⟩
  obtain ⟨A2, c2, rfl, h1, h2⟩ := cs_row h
  exact ⟨A2, c2, rfl, h2, h1, hb⟩
def lfG (a : ByteArray) (fr n : Int) : Nat → Int → List Ev → List Ev × Int × Int
 | 0, _, l => (l ++ [ev 4 (fr + n - 1) h0 0], 0, fr + n)
 | g + 1, k, l => if (a.size : Int) ≤ fr + k then (l, 2, (a.size : Int)) else lfG a fr n g (k + 1) (l ++ [ev 3 (fr + k) h0 (bt a (fr + k))])
def lfM (a : ByteArray) (l : List Ev) (fr n : Int) : List Ev × Int × Int := if n = 0 then (l ++ [ev 4 (fr - 1) h0 0], 0, fr) else lfG a fr n n.toNat 0 l
set_option maxHeartbeats 8000000 in
set_option maxRecDepth 100000 in
theorem leaf_zero (a : ByteArray) (A : Option Addr) (c : Nat) (l : List Ev) (fr n : Int) (w : World) (hC : Cs w A l) (hc : l.length ≤ c) (hl : l.length ≤ 100000) (hs : a.size ≤ 700) (hf0 : 1 ≤ fr) (hf1 : fr ≤ a.size) (hn0 : 0 ≤ n) (hn1 : n ≤ 2305843009213693951) (hn : n = 0) :
 Calls Try.prog 27 #[.string a, .slice A l.length c, .int .i64 fr, .int .i64 n] w fun e w' => ∃ A2 c2, e = .returned (.agg #[.slice A2 (lfM a l fr n).1.length c2, .int .i64 (lfM a l fr n).2.1, .int .i64 (lfM a l fr n).2.2]) ∧ Cs w' A2 (lfM a l fr n).1 ∧ (lfM a l fr n).1.length ≤ c2 ∧ Below w.heap.size w w' := by
 obtain ⟨m, hm⟩ : ∃ q, l ++ [ev 4 (fr - 1) h0 0] = q := ⟨_, rfl⟩
 have X2 := Aside0.mk (show l ++ [(⟨4, fr - 1, ⟨0, 0, false, 0⟩, 0⟩ : Ev)] = m from hm)
 have P_l := Aside0.mk hC
 have LC := Aside0.mk hc
 have LL := Aside0.mk (show l.length ≤ 1000000 by omega)
 have HU := Aside0.mk (Upd.refl None0 w)
 have ef : lfM a l fr n = (m, 0, fr) := by unfold lfM; rw [if_pos hn, hm]
 rw [ef]
 have y1 : (n == 0) = true := beq_iff_eq.2 hn
 clear hC hc hl hm ef hn
 go_enter Try.func27, Try.ntmps27
 go_wp2_with (first
  | ((with_reducible refine gate_dst (N := 8) rfl ?_)
     refine boxnew ?hg (N := 8) ?hd (cs := #[.slice none 0 0, .int .i64 0, .int .i64 0]) (t := 33) ?hr ?_; (case hd => rfl); (case hg => rfl); (case hr => first | (go_simp; done) | (go_simp; rfl))
     intro g_t hge w1 hbox hu
     have GE_t := Aside0.mk (Nat.le_trans (zz9 : Upd None0 w _).size hge)
     replace P_l := Aside0.mk (Cs.updN zz34 hu)
     replace HU := Aside0.mk ((zz9 : Upd None0 w _).trans hu (fun _ h => h.elim))
     clear hu
     have B_t := Aside0.mk hbox; clear hbox hge
     have hc_t_0 := co B_t 0 (.slice none 0 0) rfl; have hc_t_1 := co B_t 1 (.int .i64 0) rfl; have hc_t_2 := co B_t 2 (.int .i64 0) rfl)
  | (go_at_call 28
     (with_reducible refine (and_any A c l _ 4 (fr - 1) 0 0 false 0 0 _ zz34 LC.out LL.out X2.out).mono ?_)
     rintro e w2 ⟨A_m, c_m, rfl, hC2, hle2, hb⟩
     have hu := (Upd.of_below hb : Upd None0 _ _)
     replace B_t := Aside0.mk (hu.blk zz32 (fun h => h))
     replace P_l := Aside0.mk (Cs.updN zz34 hu)
     replace HU := Aside0.mk ((zz9 : Upd None0 w _).trans hu (fun _ h => h.elim))
     clear hu
     have P_m := Aside0.mk hC2
     have L_m := Aside0.mk hle2
     clear hC2 hle2
     (try clear hc_t_0 hc_t_1 hc_t_2)
     have hc_t_0 := co B_t 0 (.slice none 0 0) rfl; have hc_t_1 := co B_t 1 (.int .i64 0) rfl; have hc_t_2 := co B_t 2 (.int .i64 0) rfl)
  | ((with_reducible refine gate_store (t := 33) (p := 8) (v := .tmp 18) rfl ?_)
     refine rowput rfl 33 (.tmp 8) (.tmp 18) rfl rfl g_t #[.slice A_m m.length c_m, .int .i64 0, .int .i64 fr] rfl rfl 33 #[.slice none 0 0, .int .i64 0, .int .i64 0] zz32 zz8 rfl zz17 ?_
     intro w3 hbox hu
     replace P_m := Aside0.mk (Cs.updT (by exact P_m.out.updN lu) zz32 zz13 hu)
     replace HU := Aside0.mk ((zz9 : Upd None0 w _).trans hu (fun k hk => .inr zz57))
     clear hu
     clear B_t; have B_t := Aside0.mk hbox; clear hbox
     (try clear hc_t_0 hc_t_1 hc_t_2)
     have hc_t_0 := co B_t 0 (.slice A_m m.length c_m) rfl; have hc_t_1 := co B_t 1 (.int .i64 0) rfl; have hc_t_2 := co B_t 2 (.int .i64 fr) rfl))
 refine bodyPost_ret (results_c rfl _ _ g_t 33 #[.slice A_m m.length c_m, .int .i64 0, .int .i64 fr] (0, 0) _ rfl zz32 Try.underlying33 rfl zz8) rfl ?_
 exact ⟨_, _, rfl, P_m.out, L_m.out, HU.out.below0⟩
set_option maxHeartbeats 8000000 in
set_option maxRecDepth 100000 in
theorem leaf_loop (a : ByteArray) (A : Option Addr) (c : Nat) (l : List Ev) (fr n : Int) (w : World) (hC : Cs w A l) (hc : l.length ≤ c) (hl : l.length ≤ 100000) (hs : a.size ≤ 700) (hf0 : 1 ≤ fr) (hf1 : fr ≤ a.size) (hn0 : 0 ≤ n) (hn1 : n ≤ 2305843009213693951) (hn : ¬ n = 0) :
 Calls Try.prog 27 #[.string a, .slice A l.length c, .int .i64 fr, .int .i64 n] w fun e w' => ∃ A2 c2, e = .returned (.agg #[.slice A2 (lfM a l fr n).1.length c2, .int .i64 (lfM a l fr n).2.1, .int .i64 (lfM a l fr n).2.2]) ∧ Cs w' A2 (lfM a l fr n).1 ∧ (lfM a l fr n).1.length ≤ c2 ∧ Below w.heap.size w w' := by
 obtain ⟨⟨r1, r2, r3⟩, hr⟩ : ∃ q, lfG a fr n n.toNat 0 l = q := ⟨_, rfl⟩
 have P_l := Aside0.mk hC
 have HU := Aside0.mk (Upd.refl None0 w)
 have ef : lfM a l fr n = (r1, r2, r3) := by unfold lfM; rw [if_neg hn, hr]
 rw [ef]
 have y1 : (n == 0) = false := beq_eq_false_iff_ne.2 hn
 have hn2 : 0 < n := by omega
 have HR := Aside0.mk hr
 clear hC ef hn hr
 go_enter Try.func27, Try.ntmps27
 go_wp2_with (first
  | ((with_reducible refine gate_dst (N := 8) rfl ?_)
     refine boxnew ?hg (N := 8) ?hd (cs := #[.slice none 0 0, .int .i64 0, .int .i64 0]) (t := 33) ?hr ?_; (case hd => rfl); (case hg => rfl); (case hr => first | (go_simp; done) | (go_simp; rfl))
     intro g_t hge w1 hbox hu
     have GE_t := Aside0.mk (Nat.le_trans (zz9 : Upd None0 w _).size hge)
     replace P_l := Aside0.mk (Cs.updN zz34 hu)
     replace HU := Aside0.mk ((zz9 : Upd None0 w _).trans hu (fun _ h => h.elim))
     clear hu
     have B_t := Aside0.mk hbox; clear hbox hge
     have hc_t_0 := co B_t 0 (.slice none 0 0) rfl; have hc_t_1 := co B_t 1 (.int .i64 0) rfl; have hc_t_2 := co B_t 2 (.int .i64 0) rfl))
 go_loopg [1, 9] n.toNat (fun gk v1 v9 wr => ∃ (k : Nat) (xs : List Ev) (A1 : Option Addr) (c1 : Nat), v1 = .slice A1 xs.length c1 ∧ v9 = .int .i64 (k : Int) ∧ Aside0 (lfG a fr n gk (k : Int) xs = (r1, r2, r3) ∧ (k : Int) + gk = n ∧ fr + k ≤ a.size ∧ xs.length ≤ 100000 + k ∧ xs.length ≤ c1) ∧ Aside0 (Cs wr A1 xs) ∧ Aside0 (wr.heap[g_t]? = some (.cells #[.slice none 0 0, .int .i64 0, .int .i64 0] 33 (0, 0))) ∧ Aside0 (Upd None0 w wr))
 case atStart => exact ⟨0, l, A, c, rfl, rfl, ⟨HR.out, zz3, by simpa using hf1, by simpa using hl, hc⟩, P_l, B_t, HU⟩
 case round =>
  clear P_l HU B_t
  obtain ⟨k, xs, A1, c1, rfl, rfl, HI, P_l, B_t, HU⟩ := hrel
  have hk0 : 0 ≤ (k : Int) := by omega
  have hkm : (k : Int) ≤ 700 := by have := HI.out.2.2.1; omega
  have hkf : fr + (k : Int) ≤ 700 := by have := HI.out.2.2.1; omega
  have hf2 : fr ≤ 700 := by omega
  cases gk with
  | zero =>
    have hlt : decide ((k : Int) < n) = false := decide_eq_false (by have := HI.out.2.1; omega)
    have hkn : (k : Int) = n := by have := HI.out.2.1; omega
    have h9 := HI.out.1
    simp only [lfG, Prod.mk.injEq] at h9
    obtain ⟨e1, e2, e3⟩ := h9
    subst e2 e3
    have X2 := Aside0.mk (show xs ++ [(⟨4, fr + n - 1, ⟨0, 0, false, 0⟩, 0⟩ : Ev)] = r1 from e1)
    have LL := Aside0.mk (show xs.length ≤ 1000000 by have := HI.out.2.2.2.1; omega)
    have LC := Aside0.mk HI.out.2.2.2.2
    have hn3 : n ≤ 700 := by omega
    clear e1
    go_wp2_with (first
     | (go_at_call 28
        (with_reducible refine (and_any A1 c1 xs _ 4 (fr + n - 1) 0 0 false 0 0 _ zz34 LC.out LL.out X2.out).mono ?_)
        rintro e w1 ⟨A_m, c_m, rfl, hC2, hle2, hb⟩
        have hu := (Upd.of_below hb : Upd None0 _ _)
        replace B_t := Aside0.mk (hu.blk zz32 (fun h => h))
        replace P_l := Aside0.mk (Cs.updN zz34 hu)
        replace HU := Aside0.mk ((zz9 : Upd None0 w _).trans hu (fun _ h => h.elim))
        clear hu
        have P_m := Aside0.mk hC2
        have L_m := Aside0.mk hle2
        clear hC2 hle2
        have hc_t_0 := co B_t 0 (.slice none 0 0) rfl; have hc_t_1 := co B_t 1 (.int .i64 0) rfl; have hc_t_2 := co B_t 2 (.int .i64 0) rfl)
     | ((with_reducible refine gate_store (t := 33) (p := 8) (v := .tmp 55) rfl ?_)
        refine rowput rfl 33 (.tmp 8) (.tmp 55) rfl rfl g_t #[.slice A_m r1.length c_m, .int .i64 0, .int .i64 (fr + n)] rfl rfl 33 #[.slice none 0 0, .int .i64 0, .int .i64 0] zz32 zz8 rfl zz17 ?_
        intro w2 hbox hu
        replace P_m := Aside0.mk (Cs.updT (by exact P_m.out.updN lu) zz32 zz13 hu)
        replace HU := Aside0.mk ((zz9 : Upd None0 w _).trans hu (fun k hk => .inr zz57))
        clear hu
        clear B_t; have B_t := Aside0.mk hbox; clear hbox
        (try clear hc_t_0 hc_t_1 hc_t_2)
        have hc_t_0 := co B_t 0 (.slice A_m r1.length c_m) rfl; have hc_t_1 := co B_t 1 (.int .i64 0) rfl; have hc_t_2 := co B_t 2 (.int .i64 (fr + n)) rfl))
    refine bodyPost_ret (results_c rfl _ _ g_t 33 #[.slice A_m r1.length c_m, .int .i64 0, .int .i64 (fr + n)] (0, 0) _ rfl zz32 Try.underlying33 rfl zz8) rfl ?_
    exact ⟨_, _, rfl, P_m.out, L_m.out, HU.out.below0⟩
  | succ gk =>
    have hlt : decide ((k : Int) < n) = true := decide_eq_true (by have := HI.out.2.1; omega)
    have h9 := HI.out.1
    simp only [lfG] at h9
    by_cases hz : (a.size : Int) ≤ fr + (k : Int)
    ·
     rw [if_pos hz] at h9
     simp only [Prod.mk.injEq] at h9
     obtain ⟨rfl, rfl, rfl⟩ := h9
     have hz2 : decide ((a.size : Int) ≤ fr + (k : Int)) = true := decide_eq_true hz
     go_wp2_with (first
      | ((with_reducible refine gate_store (t := 33) (p := 8) (v := .tmp 33) rfl ?_)
         refine rowput rfl 33 (.tmp 8) (.tmp 33) rfl rfl g_t #[.slice A1 xs.length c1, .int .i64 2, .int .i64 (a.size : Int)] rfl rfl 33 #[.slice none 0 0, .int .i64 0, .int .i64 0] zz32 zz8 rfl zz17 ?_
         intro w1 hbox hu
         replace P_l := Aside0.mk (Cs.updT zz34 zz32 zz13 hu)
         replace HU := Aside0.mk ((zz9 : Upd None0 w _).trans hu (fun k hk => .inr zz57))
         clear hu
         clear B_t; have B_t := Aside0.mk hbox; clear hbox
         have hc_t_0 := co B_t 0 (.slice A1 xs.length c1) rfl; have hc_t_1 := co B_t 1 (.int .i64 2) rfl; have hc_t_2 := co B_t 2 (.int .i64 (a.size : Int)) rfl))
     refine bodyPost_ret (results_c rfl _ _ g_t 33 #[.slice A1 xs.length c1, .int .i64 2, .int .i64 (a.size : Int)] (0, 0) _ rfl zz32 Try.underlying33 rfl zz8) rfl ?_
     exact ⟨_, _, rfl, P_l.out, HI.out.2.2.2.2, HU.out.below0⟩
    ·
     rw [if_neg hz] at h9
     have hz2 : decide ((a.size : Int) ≤ fr + (k : Int)) = false := decide_eq_false hz
     have hz3 : fr + (k : Int) < (a.size : Int) := by omega
     obtain ⟨b, hb⟩ : ∃ q, bt a (fr + (k : Int)) = q := ⟨_, rfl⟩
     have hbx : ∀ h : (fr + (k : Int)).toNat < a.size, (((a[(fr + (k : Int)).toNat]'h).toNat : Nat) : Int) = b := by rw [← hb]; exact bt_at a (fr + (k : Int))
     rw [hb] at h9
     obtain ⟨m, hm⟩ : ∃ q, xs ++ [ev 3 (fr + (k : Int)) h0 b] = q := ⟨_, rfl⟩
     rw [hm] at h9
     have H9 := Aside0.mk h9
     have X2 := Aside0.mk (show xs ++ [(⟨3, fr + (k : Int), ⟨0, 0, false, 0⟩, b⟩ : Ev)] = m from hm)
     have LL := Aside0.mk (show xs.length ≤ 1000000 by have := HI.out.2.2.2.1; omega)
     have LC := Aside0.mk HI.out.2.2.2.2
     have LM := Aside0.mk (show m.length = xs.length + 1 by rw [← hm]; simp)
     clear h9 hm hb
     go_wp2_with (first
      | (go_at_call 28
         (with_reducible refine (and_any A1 c1 xs _ 3 (fr + (k : Int)) 0 0 false 0 b _ zz34 LC.out LL.out X2.out).mono ?_)
         rintro e w1 ⟨A_m, c_m, rfl, hC2, hle2, hb⟩
         have hu := (Upd.of_below hb : Upd None0 _ _)
         replace B_t := Aside0.mk (hu.blk zz32 (fun h => h))
         replace P_l := Aside0.mk (Cs.updN zz34 hu)
         replace HU := Aside0.mk ((zz9 : Upd None0 w _).trans hu (fun _ h => h.elim))
         clear hu
         have P_m := Aside0.mk hC2
         have L_m := Aside0.mk hle2
         clear hC2 hle2
         have hc_t_0 := co B_t 0 (.slice none 0 0) rfl; have hc_t_1 := co B_t 1 (.int .i64 0) rfl; have hc_t_2 := co B_t 2 (.int .i64 0) rfl))
     go_roundg gk
     case measure => omega
     case rel => exact ⟨k + 1, m, A_m, c_m, rfl, zz29, ⟨by have := H9.out; simpa using this, by have := HI.out.2.1; omega, zz3, by have := LM.out; have := HI.out.2.2.2.1; omega, L_m.out⟩, P_m, B_t, HU⟩
theorem leaf_any (a : ByteArray) (A : Option Addr) (c : Nat) (l r1 : List Ev) (fr n r2 r3 : Int) (w : World) (hC : Cs w A l) (hc : l.length ≤ c) (hl : l.length ≤ 100000) (hs : a.size ≤ 700) (hf0 : 1 ≤ fr) (hf1 : fr ≤ a.size) (hn0 : 0 ≤ n) (hn1 : n ≤ 2305843009213693951) (h : lfM a l fr n = (r1, r2, r3)) :
 Calls Try.prog 27 #[.string a, .slice A l.length c, .int .i64 fr, .int .i64 n] w fun e w' => ∃ A2 c2, e = .returned (.agg #[.slice A2 r1.length c2, .int .i64 r2, .int .i64 r3]) ∧ Cs w' A2 r1 ∧ r1.length ≤ c2 ∧ Below w.heap.size w w' := by
 by_cases hn : n = 0
 ·
  have := leaf_zero a A c l fr n w hC hc hl hs hf0 hf1 hn0 hn1 hn
  rw [h] at this
  exact this
 ·
  have := leaf_loop a A c l fr n w hC hc hl hs hf0 hf1 hn0 hn1 hn
  rw [h] at this
  exact this
def elX (a : ByteArray) (T : Int → Int → Hd × Int × Int) (most : Int) : Nat → Bool → List Ev → Int → Int → Int → Option (List Ev × Int × Int)
 | 0, _, _, _, _, _ => none
 | g + 1, false, l, p, en, op =>
   if (T p en).2.2 ≠ 0 then some (l, (T p en).2.2, (T p en).2.1)
   else if 0 ≤ en ∧ en - ((T p en).2.1 + 1) < (T p en).1.f3 then some (l, 5, (T p en).2.1)
   else if (T p en).1.f2 = false then some (lfM a (l ++ [ev 2 (T p en).2.1 (T p en).1 0]) ((T p en).2.1 + 1) (T p en).1.f3)
   else if op = most then some (l, 10, (T p en).2.1)
   else elX a T most g true (l ++ [ev 1 (T p en).2.1 (T p en).1 0]) ((T p en).2.1 + 1) ((T p en).2.1 + 1 + (T p en).1.f3) op
 | g + 1, true, l, p, stop, op =>
   if p < stop then (elX a T most g false l p stop (op + 1)).bind fun t => if t.2.1 ≠ 0 then some t else elX a T most g true t.1 t.2.2 stop op
   else some (l ++ [ev 5 (p - 1) h0 0], 0, p)
def GoodT (a : ByteArray) (T : Int → Int → Hd × Int × Int) : Prop := ∀ p en : Int, 0 ≤ p → p ≤ a.size → (T p en).2.2 = 0 → p ≤ (T p en).2.1 ∧ (T p en).2.1 < a.size ∧ 0 ≤ (T p en).1.f3 ∧ (T p en).1.f3 ≤ 2305843009213693951
theorem lfG_len (a : ByteArray) (fr n : Int) : ∀ (g : Nat) (k : Int) (l : List Ev), (k + g = n) → fr + k ≤ a.size → (lfG a fr n g k l).2.1 = 0 → (lfG a fr n g k l).1.length = l.length + g + 1 ∧ (lfG a fr n g k l).2.2 = fr + n ∧ fr + n ≤ a.size
 | 0, k, l, hk, h1, _ => by
   have : k = n := by simpa using hk
   subst this
   simp [lfG]
   exact h1
 | g + 1, k, l, hk, h1, h => by
   unfold lfG at h ⊢
   split
   ·
    rename_i hc; rw [if_pos hc] at h; simp at h
   ·
    rename_i hc
    rw [if_neg hc] at h
    have := lfG_len a fr n g (k + 1) _ zz3 zz3 h
    simp only [List.length_append, List.length_cons, List.length_nil] at this
    exact ⟨zz3, this.2⟩
theorem lfM_len (a : ByteArray) (l : List Ev) (fr n : Int) (hn : 0 ≤ n) (hf : fr ≤ a.size) (h : (lfM a l fr n).2.1 = 0) : ((lfM a l fr n).1.length : Int) = l.length + n + 1 ∧ (lfM a l fr n).2.2 = fr + n ∧ fr + n ≤ a.size := by
 unfold lfM at h ⊢
 split
 ·
  rename_i hc; subst hc; simp; omega
 ·
  rename_i hc
  rw [if_neg hc] at h
  have := lfG_len a fr n n.toNat 0 l zz3 zz3 h
  exact ⟨zz3, this.2⟩
theorem elX_len (a : ByteArray) (T : Int → Int → Hd × Int × Int) (most : Int) (hT : GoodT a T) : ∀ (g : Nat) (b : Bool) (l : List Ev) (p en op d : Int) (r : List Ev × Int × Int), elX a T most g b l p en op = some r → 0 ≤ p → p ≤ a.size → r.2.1 = 0 → (l.length : Int) + d + (if b then 1 else 0) ≤ 3 * p → (r.1.length : Int) + d ≤ 3 * r.2.2 ∧ p ≤ r.2.2 ∧ (b = false → p < r.2.2) ∧ r.2.2 ≤ a.size
 | 0, _, _, _, _, _, _, _, h, _, _, _, _ => by simp [elX] at h
 | g + 1, false, l, p, en, op, d, r, h, h0, h1, hr, hl => by
   have hl : (l.length : Int) + d ≤ 3 * p := by simpa using hl
   have tt := hT p en h0 h1
   unfold elX at h
   by_cases c1 : (T p en).2.2 = 0
   ·
    rw [if_neg (by simp [c1])] at h
    obtain ⟨t1, t2, t3, t4⟩ := tt c1
    split at h
    ·
     simp only [Option.some.injEq] at h; subst h; simp at hr
    ·
     split at h
     ·
      simp only [Option.some.injEq] at h
      subst h
      have := lfM_len a _ _ _ t3 zz3 hr
      simp only [List.length_append, List.length_cons, List.length_nil] at this
      refine ⟨zz3, zz3, fun _ => by omega, zz3⟩
     ·
      split at h
      ·
       simp only [Option.some.injEq] at h; subst h; simp at hr
      ·
       have := elX_len a T most hT g true _ _ _ _ d r h zz3 zz3 hr (by simp only [List.length_append, List.length_cons, List.length_nil, if_true]; omega)
       exact ⟨this.1, zz3, fun _ => by omega, this.2.2.2⟩
   ·
    rw [if_pos c1] at h
    simp only [Option.some.injEq] at h; subst h; exact absurd hr c1
 | g + 1, true, l, p, en, op, d, r, h, h0, h1, hr, hl => by
   have hl : (l.length : Int) + d + 1 ≤ 3 * p := by simpa using hl
   unfold elX at h
   split at h
   ·
    obtain ⟨t, ht, h⟩ := Option.bind_eq_some_iff.mp h
    split at h
    ·
     rename_i hc; simp only [Option.some.injEq] at h; subst h; exact absurd hr hc
    ·
     rename_i hc
     have hc : t.2.1 = 0 := by simpa using hc
     have i1 := elX_len a T most hT g false l p en (op + 1) (d + 1) t ht h0 h1 hc zz44
     have i2 := elX_len a T most hT g true t.1 t.2.2 en op d r h zz3 zz3 hr zz44
     exact ⟨i2.1, zz3, fun h => by simp at h, i2.2.2.2⟩
   ·
    simp only [Option.some.injEq] at h; subst h
    simp only [List.length_append, List.length_cons, List.length_nil]
    exact ⟨zz3, zz3, fun h => by simp at h, h1⟩
end Go.Proofs.Ytpfconocipmcjaa.PC
namespace Go.Proofs.Ytpfconocipmcjaa.PC
open RowKit YtpfconocipmcjaaW.PrintWords YtpfconocipmcjaaW.PrintLast YtpfconocipmcjaaW.PrintMore Own
attribute [local go_sem] max2_int min2_int max_two min_two max_three min_three max_four min_four
set_option linter.unusedVariables false
set_option linter.unusedSimpArgs false
def StartT (a : ByteArray) (T : Int → Int → Hd × Int × Int) : Prop := ∀ (p en : Int) (w : World), 0 ≤ p → p ≤ a.size → -1 ≤ en → en ≤ 2305843009213694999 → Calls Try.prog 26 #[.string a, .int .i64 p, .int .i64 en] w fun e w' => e = .returned (.tuple #[.agg #[.int .i64 (T p en).1.f0, .int .i64 (T p en).1.f1, .bool (T p en).1.f2, .int .i64 (T p en).1.f3], .int .i64 (T p en).2.1, .int .i64 (T p en).2.2]) ∧ Below w.heap.size w w'
set_option maxHeartbeats 8000000 in
set_option maxRecDepth 100000 in
theorem elem_leaf (a : ByteArray) (A : Option Addr) (c : Nat) (l : List Ev) (p en op most t1 t2 : Int) (t3 : Bool) (t4 la er : Int) (w : World) (hC : Cs w A l) (hc : l.length ≤ c) (hl : l.length ≤ 10000) (hs : a.size ≤ 700) (hp0 : 0 ≤ p) (hp1 : p ≤ a.size) (hn0 : -1 ≤ en) (hn1 : en ≤ 2305843009213694999) (ho0 : 0 ≤ op) (ho1 : op ≤ 64) (hm0 : 0 ≤ most) (hm1 : most ≤ 64) (hst : ∀ w, Calls Try.prog 26 #[.string a, .int .i64 p, .int .i64 en] w fun e w' => e = .returned (.tuple #[.agg #[.int .i64 t1, .int .i64 t2, .bool t3, .int .i64 t4], .int .i64 la, .int .i64 er]) ∧ Below w.heap.size w w') (r1 : List Ev) (r2 r3 : Int) (he : er = 0) (hla0 : 0 ≤ la) (hla1 : la ≤ 700) (ht0 : 0 ≤ t4) (ht1 : t4 ≤ 2305843009213693951) (hla2 : la + 1 ≤ a.size) (hb : ¬ (0 ≤ en ∧ en - (la + 1) < t4)) (h3 : t3 = false) (hr : lfM a (l ++ [ev 2 la ⟨t1, t2, t3, t4⟩ 0]) (la + 1) t4 = (r1, r2, r3)) :
 Calls Try.prog 18 #[.string a, .slice A l.length c, .int .i64 p, .int .i64 en, .int .i64 op, .int .i64 most] w fun e w' => ∃ A2 c2, e = .returned (.agg #[.slice A2 r1.length c2, .int .i64 r2, .int .i64 r3]) ∧ Cs w' A2 r1 ∧ r1.length ≤ c2 ∧ Below w.heap.size w w' := by
 have P_l := Aside0.mk hC
 have LC := Aside0.mk hc
 have HU := Aside0.mk (Upd.refl None0 w)
 have HS := Aside0.mk hst
 have LL := Aside0.mk (show l.length ≤ 1000000 by omega)
 have hcase : (decide (0 ≤ en) = true ∧ decide (en - (la + 1) < t4) = false) ∨ (decide (0 ≤ en) = false ∧ True) := by
  by_cases hb0 : 0 ≤ en
  ·
   exact .inl ⟨decide_eq_true hb0, decide_eq_false (fun h => hb ⟨hb0, h⟩)⟩
  ·
   exact .inr ⟨decide_eq_false hb0, trivial⟩
 subst he
 clear hb
 obtain ⟨m, hm⟩ : ∃ q, l ++ [ev 2 la ⟨t1, t2, t3, t4⟩ 0] = q := ⟨_, rfl⟩
 rw [hm] at hr
 have X2 := Aside0.mk (show l ++ [(⟨2, la, ⟨t1, t2, t3, t4⟩, 0⟩ : Ev)] = m from hm)
 have XL := Aside0.mk hr
 have HZ := Aside0.mk hs
 have LA := Aside0.mk hla2
 have LM := Aside0.mk (show m.length ≤ 100000 by rw [← hm, List.length_append]; simp; omega)
 have y4 : (!t3) = true := by rw [h3]; rfl
 clear hm hr h3
 clear hC hc hst hl
 go_enter Try.func18, Try.ntmps18
 rcases hcase with ⟨y2, y3⟩ | ⟨y2, y3⟩
 all_goals
  go_wp2_with (first
   | ((with_reducible refine gate_dst (N := 12) rfl ?_)
      refine boxnew ?hg (N := 12) ?hd (cs := #[.slice none 0 0, .int .i64 0, .int .i64 0]) (t := 33) ?hr ?_; (case hd => rfl); (case hg => rfl); (case hr => first | (go_simp; done) | (go_simp; rfl))
      intro g_t hge w1 hbox hu
      have GE_t := Aside0.mk (Nat.le_trans (zz9 : Upd None0 w _).size hge)
      replace P_l := Aside0.mk (Cs.updN zz34 hu)
      replace HU := Aside0.mk ((zz9 : Upd None0 w _).trans hu (fun _ h => h.elim))
      clear hu
      have B_t := Aside0.mk hbox; clear hbox hge
      have hc_t_0 := co B_t 0 (.slice none 0 0) rfl; have hc_t_1 := co B_t 1 (.int .i64 0) rfl; have hc_t_2 := co B_t 2 (.int .i64 0) rfl)
   | (go_at_call 26
      (with_reducible refine (HS.out _).mono ?_)
      rintro e w2 ⟨rfl, hb⟩
      have hu := (Upd.of_below hb : Upd None0 _ _)
      replace B_t := Aside0.mk (hu.blk zz32 (fun h => h))
      replace P_l := Aside0.mk (Cs.updN zz34 hu)
      replace HU := Aside0.mk ((zz9 : Upd None0 w _).trans hu (fun _ h => h.elim))
      clear hu
      (try clear hc_t_0 hc_t_1 hc_t_2)
      have hc_t_0 := co B_t 0 (.slice none 0 0) rfl; have hc_t_1 := co B_t 1 (.int .i64 0) rfl; have hc_t_2 := co B_t 2 (.int .i64 0) rfl)
   | ((with_reducible refine gate_dst (N := 13) rfl ?_)
      refine boxnew ?hg (N := 13) ?hd (cs := #[.int .i64 0, .int .i64 0, .bool false, .int .i64 0]) (t := 37) ?hr ?_; (case hd => rfl); (case hg => rfl); (case hr => first | (go_simp; done) | (go_simp; rfl))
      intro g_H hge w3 hbox hu
      have NE_H_t := Aside0.mk (Ne.symm (blk_fresh zz32 hge))
      have GE_H := Aside0.mk (Nat.le_trans (zz9 : Upd None0 w _).size hge)
      replace B_t := Aside0.mk (hu.blk zz32 (fun h => h))
      replace P_l := Aside0.mk (Cs.updN zz34 hu)
      replace HU := Aside0.mk ((zz9 : Upd None0 w _).trans hu (fun _ h => h.elim))
      clear hu
      have B_H := Aside0.mk hbox; clear hbox hge
      (try clear hc_t_0 hc_t_1 hc_t_2)
      have hc_t_0 := co B_t 0 (.slice none 0 0) rfl; have hc_t_1 := co B_t 1 (.int .i64 0) rfl; have hc_t_2 := co B_t 2 (.int .i64 0) rfl; have hc_H_0 := co B_H 0 (.int .i64 0) rfl; have hc_H_1 := co B_H 1 (.int .i64 0) rfl; have hc_H_2 := co B_H 2 (.bool false) rfl; have hc_H_3 := co B_H 3 (.int .i64 0) rfl)
   | ((with_reducible refine gate_store (t := 37) (p := 13) (v := .tmp 23) rfl ?_)
      refine rowput rfl 37 (.tmp 13) (.tmp 23) rfl rfl g_H #[.int .i64 t1, .int .i64 t2, .bool t3, .int .i64 t4] rfl rfl 37 #[.int .i64 0, .int .i64 0, .bool false, .int .i64 0] zz26 zz8 rfl zz17 ?_
      intro w4 hbox hu
      replace B_t := Aside0.mk (hu.blk zz32 (Ne.symm NE_H_t.out))
      replace P_l := Aside0.mk (Cs.updT zz34 zz26 zz13 hu)
      replace HU := Aside0.mk ((zz9 : Upd None0 w _).trans hu (fun k hk => .inr zz41))
      clear hu
      clear B_H; have B_H := Aside0.mk hbox; clear hbox
      (try clear hc_t_0 hc_t_1 hc_t_2 hc_H_0 hc_H_1 hc_H_2 hc_H_3)
      have hc_t_0 := co B_t 0 (.slice none 0 0) rfl; have hc_t_1 := co B_t 1 (.int .i64 0) rfl; have hc_t_2 := co B_t 2 (.int .i64 0) rfl; have hc_H_0 := co B_H 0 (.int .i64 t1) rfl; have hc_H_1 := co B_H 1 (.int .i64 t2) rfl; have hc_H_2 := co B_H 2 (.bool t3) rfl; have hc_H_3 := co B_H 3 (.int .i64 t4) rfl))
  go_region_with (first
   | (go_at_call 28
      (with_reducible refine (and_any A c l _ 2 la t1 t2 t3 t4 0 _ zz34 LC.out LL.out X2.out).mono ?_)
      rintro e w5 ⟨A_m, c_m, rfl, hC2, hle2, hb⟩
      have hu := (Upd.of_below hb : Upd None0 _ _)
      replace B_t := Aside0.mk (hu.blk zz32 (fun h => h))
      replace B_H := Aside0.mk (hu.blk zz26 (fun h => h))
      replace P_l := Aside0.mk (Cs.updN zz34 hu)
      replace HU := Aside0.mk ((zz9 : Upd None0 w _).trans hu (fun _ h => h.elim))
      clear hu
      have P_m := Aside0.mk hC2
      have L_m := Aside0.mk hle2
      clear hC2 hle2
      (try clear hc_t_0 hc_t_1 hc_t_2 hc_H_0 hc_H_1 hc_H_2 hc_H_3)
      have hc_t_0 := co B_t 0 (.slice none 0 0) rfl; have hc_t_1 := co B_t 1 (.int .i64 0) rfl; have hc_t_2 := co B_t 2 (.int .i64 0) rfl; have hc_H_0 := co B_H 0 (.int .i64 t1) rfl; have hc_H_1 := co B_H 1 (.int .i64 t2) rfl; have hc_H_2 := co B_H 2 (.bool t3) rfl; have hc_H_3 := co B_H 3 (.int .i64 t4) rfl)
   | (go_at_call 27
      (with_reducible refine (leaf_any a A_m c_m m r1 (la + 1) t4 r2 r3 _ (by exact P_m.out.updN lu) L_m.out LM.out HZ.out zz3 LA.out zz3 zz3 XL.out).mono ?_)
      rintro e w6 ⟨A_q, c_q, rfl, hC2, hle2, hb⟩
      have hu := (Upd.of_below hb : Upd None0 _ _)
      replace B_t := Aside0.mk (hu.blk zz32 (fun h => h))
      replace B_H := Aside0.mk (hu.blk zz26 (fun h => h))
      replace P_m := Aside0.mk (Cs.updN (by exact P_m.out.updN lu) hu)
      replace HU := Aside0.mk ((zz9 : Upd None0 w _).trans hu (fun _ h => h.elim))
      clear hu
      have P_q := Aside0.mk hC2
      have L_q := Aside0.mk hle2
      clear hC2 hle2
      (try clear hc_t_0 hc_t_1 hc_t_2 hc_H_0 hc_H_1 hc_H_2 hc_H_3)
      have hf_t_0 : w6.frozen? ⟨g_t, 0, none⟩ = false := blk_frozen B_t.out 0; have hc_t_0 := co B_t 0 (.slice none 0 0) rfl; have hf_t_1 : w6.frozen? ⟨g_t, 1, none⟩ = false := blk_frozen B_t.out 1; have hc_t_1 := co B_t 1 (.int .i64 0) rfl; have hf_t_2 : w6.frozen? ⟨g_t, 2, none⟩ = false := blk_frozen B_t.out 2; have hc_t_2 := co B_t 2 (.int .i64 0) rfl; have hc_H_0 := co B_H 0 (.int .i64 t1) rfl; have hc_H_1 := co B_H 1 (.int .i64 t2) rfl; have hc_H_2 := co B_H 2 (.bool t3) rfl; have hc_H_3 := co B_H 3 (.int .i64 t4) rfl))
  all_goals (
   go_wp2
   have B9 := blk_set (blk_set (blk_set B_t.out 0 (.slice A_q r1.length c_q)) 1 (.int .i64 r2)) 2 (.int .i64 r3)
   have U9 := Upd.setCell (Upd.setCell (Upd.setCell (Upd.refl (fun k => k = g_t) w6) (j := 0) (.inl rfl) (.slice A_q r1.length c_q)) (j := 1) (.inl rfl) (.int .i64 r2)) (j := 2) (.inl rfl) (.int .i64 r3)
   refine bodyPost_ret (results_c rfl _ _ g_t 33 #[.slice A_q r1.length c_q, .int .i64 r2, .int .i64 r3] (0, 0) _ rfl (by first | exact B9 | (refine blk_drew ?_; exact B9)) Try.underlying33 rfl zz8) rfl ?_
   exact ⟨_, _, rfl, P_q.out.updT B_t.out zz13 U9, L_q.out, (HU.out.trans U9 (fun k hk => .inr zz57)).below0⟩)
end Go.Proofs.Ytpfconocipmcjaa.PC
namespace Go.Proofs.Ytpfconocipmcjaa.PC
open RowKit YtpfconocipmcjaaW.PrintWords YtpfconocipmcjaaW.PrintLast YtpfconocipmcjaaW.PrintMore Own
attribute [local go_sem] max2_int min2_int max_two min_two max_three min_three max_four min_four
set_option linter.unusedVariables false
set_option linter.unusedSimpArgs false
set_option maxHeartbeats 8000000 in
set_option maxRecDepth 100000 in
theorem elem_cons (a : ByteArray) (A : Option Addr) (c : Nat) (l : List Ev) (p en op most t1 t2 : Int) (t3 : Bool) (t4 la er : Int) (w : World) (hC : Cs w A l) (hc : l.length ≤ c) (hl : l.length ≤ 10000) (hs : a.size ≤ 700) (hp0 : 0 ≤ p) (hp1 : p ≤ a.size) (hn0 : -1 ≤ en) (hn1 : en ≤ 2305843009213694999) (ho0 : 0 ≤ op) (ho1 : op ≤ 64) (hm0 : 0 ≤ most) (hm1 : most ≤ 64) (hst : ∀ w, Calls Try.prog 26 #[.string a, .int .i64 p, .int .i64 en] w fun e w' => e = .returned (.tuple #[.agg #[.int .i64 t1, .int .i64 t2, .bool t3, .int .i64 t4], .int .i64 la, .int .i64 er]) ∧ Below w.heap.size w w') (g : Nat) (T : Int → Int → Hd × Int × Int) (hT : GoodT a T) (r1 : List Ev) (r2 r3 : Int) (he : er = 0) (hla0 : 0 ≤ la) (hla1 : la ≤ 700) (ht0 : 0 ≤ t4) (ht1 : t4 ≤ 2305843009213693951) (hla2 : la + 1 ≤ a.size) (hpl : p ≤ la) (hlp : (l.length : Int) ≤ 3 * p) (hb : ¬ (0 ≤ en ∧ en - (la + 1) < t4)) (h3 : t3 = true) (h4 : ¬ op = most) (hIH : ∀ g' : Nat, g' < g → ∀ (l : List Ev) (A : Option Addr) (c : Nat) (p : Int) (w : World) (q1 : List Ev) (q2 q3 : Int), Cs w A l → l.length ≤ c → 0 ≤ p → p ≤ a.size → (l.length : Int) ≤ 3 * p → elX a T most g' false l p (la + 1 + t4) (op + 1) = some (q1, q2, q3) → Calls Try.prog 18 #[.string a, .slice A l.length c, .int .i64 p, .int .i64 (la + 1 + t4), .int .i64 (op + 1), .int .i64 most] w fun e w' => ∃ A2 c2, e = .returned (.agg #[.slice A2 q1.length c2, .int .i64 q2, .int .i64 q3]) ∧ Cs w' A2 q1 ∧ q1.length ≤ c2 ∧ Below w.heap.size w w') (hr : elX a T most g true (l ++ [ev 1 la ⟨t1, t2, t3, t4⟩ 0]) (la + 1) (la + 1 + t4) op = some (r1, r2, r3)) :
 Calls Try.prog 18 #[.string a, .slice A l.length c, .int .i64 p, .int .i64 en, .int .i64 op, .int .i64 most] w fun e w' => ∃ A2 c2, e = .returned (.agg #[.slice A2 r1.length c2, .int .i64 r2, .int .i64 r3]) ∧ Cs w' A2 r1 ∧ r1.length ≤ c2 ∧ Below w.heap.size w w' := by
 have P_l := Aside0.mk hC
 have LC := Aside0.mk hc
 have HU := Aside0.mk (Upd.refl None0 w)
 have HS := Aside0.mk hst
 have LL := Aside0.mk (show l.length ≤ 1000000 by omega)
 have hcase : (decide (0 ≤ en) = true ∧ decide (en - (la + 1) < t4) = false) ∨ (decide (0 ≤ en) = false ∧ True) := by
  by_cases hb0 : 0 ≤ en
  ·
   exact .inl ⟨decide_eq_true hb0, decide_eq_false (fun h => hb ⟨hb0, h⟩)⟩
  ·
   exact .inr ⟨decide_eq_false hb0, trivial⟩
 subst he
 clear hb
 obtain ⟨m, hm⟩ : ∃ q, l ++ [ev 1 la ⟨t1, t2, t3, t4⟩ 0] = q := ⟨_, rfl⟩
 rw [hm] at hr
 have X2 := Aside0.mk (show l ++ [(⟨1, la, ⟨t1, t2, t3, t4⟩, 0⟩ : Ev)] = m from hm)
 have XR := Aside0.mk hr
 have IH := Aside0.mk hIH
 have HS7 := Aside0.mk hs
 have LA := Aside0.mk hla2
 have LM := Aside0.mk (show (m.length : Int) + 1 ≤ 3 * (la + 1) by rw [← hm, List.length_append]; simp; omega)
 have HT := Aside0.mk hT
 have y4 : (!t3) = false := by rw [h3]; rfl
 have y5 : (op == most) = false := beq_eq_false_iff_ne.2 h4
 clear hm hr h3 h4 hIH hT
 clear hC hc hst hl
 go_enter Try.func18, Try.ntmps18
 rcases hcase with ⟨y2, y3⟩ | ⟨y2, y3⟩
 all_goals
  go_wp2_with (first
   | ((with_reducible refine gate_dst (N := 12) rfl ?_)
      refine boxnew ?hg (N := 12) ?hd (cs := #[.slice none 0 0, .int .i64 0, .int .i64 0]) (t := 33) ?hr ?_; (case hd => rfl); (case hg => rfl); (case hr => first | (go_simp; done) | (go_simp; rfl))
      intro g_t hge w1 hbox hu
      have GE_t := Aside0.mk (Nat.le_trans (zz9 : Upd None0 w _).size hge)
      replace P_l := Aside0.mk (Cs.updN zz34 hu)
      replace HU := Aside0.mk ((zz9 : Upd None0 w _).trans hu (fun _ h => h.elim))
      clear hu
      have B_t := Aside0.mk hbox; clear hbox hge
      have hc_t_0 := co B_t 0 (.slice none 0 0) rfl; have hc_t_1 := co B_t 1 (.int .i64 0) rfl; have hc_t_2 := co B_t 2 (.int .i64 0) rfl)
   | (go_at_call 26
      (with_reducible refine (HS.out _).mono ?_)
      rintro e w2 ⟨rfl, hb⟩
      have hu := (Upd.of_below hb : Upd None0 _ _)
      replace B_t := Aside0.mk (hu.blk zz32 (fun h => h))
      replace P_l := Aside0.mk (Cs.updN zz34 hu)
      replace HU := Aside0.mk ((zz9 : Upd None0 w _).trans hu (fun _ h => h.elim))
      clear hu
      (try clear hc_t_0 hc_t_1 hc_t_2)
      have hc_t_0 := co B_t 0 (.slice none 0 0) rfl; have hc_t_1 := co B_t 1 (.int .i64 0) rfl; have hc_t_2 := co B_t 2 (.int .i64 0) rfl)
   | ((with_reducible refine gate_dst (N := 13) rfl ?_)
      refine boxnew ?hg (N := 13) ?hd (cs := #[.int .i64 0, .int .i64 0, .bool false, .int .i64 0]) (t := 37) ?hr ?_; (case hd => rfl); (case hg => rfl); (case hr => first | (go_simp; done) | (go_simp; rfl))
      intro g_H hge w3 hbox hu
      have NE_H_t := Aside0.mk (Ne.symm (blk_fresh zz32 hge))
      have GE_H := Aside0.mk (Nat.le_trans (zz9 : Upd None0 w _).size hge)
      replace B_t := Aside0.mk (hu.blk zz32 (fun h => h))
      replace P_l := Aside0.mk (Cs.updN zz34 hu)
      replace HU := Aside0.mk ((zz9 : Upd None0 w _).trans hu (fun _ h => h.elim))
      clear hu
      have B_H := Aside0.mk hbox; clear hbox hge
      (try clear hc_t_0 hc_t_1 hc_t_2)
      have hc_t_0 := co B_t 0 (.slice none 0 0) rfl; have hc_t_1 := co B_t 1 (.int .i64 0) rfl; have hc_t_2 := co B_t 2 (.int .i64 0) rfl; have hc_H_0 := co B_H 0 (.int .i64 0) rfl; have hc_H_1 := co B_H 1 (.int .i64 0) rfl; have hc_H_2 := co B_H 2 (.bool false) rfl; have hc_H_3 := co B_H 3 (.int .i64 0) rfl)
   | ((with_reducible refine gate_store (t := 37) (p := 13) (v := .tmp 23) rfl ?_)
      refine rowput rfl 37 (.tmp 13) (.tmp 23) rfl rfl g_H #[.int .i64 t1, .int .i64 t2, .bool t3, .int .i64 t4] rfl rfl 37 #[.int .i64 0, .int .i64 0, .bool false, .int .i64 0] zz26 zz8 rfl zz17 ?_
      intro w4 hbox hu
      replace B_t := Aside0.mk (hu.blk zz32 (Ne.symm NE_H_t.out))
      replace P_l := Aside0.mk (Cs.updT zz34 zz26 zz13 hu)
      replace HU := Aside0.mk ((zz9 : Upd None0 w _).trans hu (fun k hk => .inr zz41))
      clear hu
      clear B_H; have B_H := Aside0.mk hbox; clear hbox
      (try clear hc_t_0 hc_t_1 hc_t_2 hc_H_0 hc_H_1 hc_H_2 hc_H_3)
      have hc_t_0 := co B_t 0 (.slice none 0 0) rfl; have hc_t_1 := co B_t 1 (.int .i64 0) rfl; have hc_t_2 := co B_t 2 (.int .i64 0) rfl; have hc_H_0 := co B_H 0 (.int .i64 t1) rfl; have hc_H_1 := co B_H 1 (.int .i64 t2) rfl; have hc_H_2 := co B_H 2 (.bool t3) rfl; have hc_H_3 := co B_H 3 (.int .i64 t4) rfl)
   | (go_at_call 28
      (with_reducible refine (and_any A c l _ 1 la t1 t2 t3 t4 0 _ zz34 LC.out LL.out X2.out).mono ?_)
      rintro e w5 ⟨A_m, c_m, rfl, hC2, hle2, hb⟩
      have hu := (Upd.of_below hb : Upd None0 _ _)
      replace B_t := Aside0.mk (hu.blk zz32 (fun h => h))
      replace B_H := Aside0.mk (hu.blk zz26 (fun h => h))
      replace P_l := Aside0.mk (Cs.updN zz34 hu)
      replace HU := Aside0.mk ((zz9 : Upd None0 w _).trans hu (fun _ h => h.elim))
      clear hu
      have P_m := Aside0.mk hC2
      have L_m := Aside0.mk hle2
      clear hC2 hle2
      (try clear hc_t_0 hc_t_1 hc_t_2 hc_H_0 hc_H_1 hc_H_2 hc_H_3)
      have hc_t_0 := co B_t 0 (.slice none 0 0) rfl; have hc_t_1 := co B_t 1 (.int .i64 0) rfl; have hc_t_2 := co B_t 2 (.int .i64 0) rfl; have hc_H_0 := co B_H 0 (.int .i64 t1) rfl; have hc_H_1 := co B_H 1 (.int .i64 t2) rfl; have hc_H_2 := co B_H 2 (.bool t3) rfl; have hc_H_3 := co B_H 3 (.int .i64 t4) rfl)
   | ((with_reducible refine gate_dst (N := 17) rfl ?_)
      refine boxnew ?hg (N := 17) ?hd (cs := #[.slice none 0 0, .int .i64 0, .int .i64 0]) (t := 33) ?hr ?_; (case hd => rfl); (case hg => rfl); (case hr => first | (go_simp; done) | (go_simp; rfl))
      intro g_u hge w6 hbox hu
      have NE_t_u := Aside0.mk (blk_fresh zz32 hge)
      have NE_H_u := Aside0.mk (blk_fresh zz26 hge)
      have GE_u := Aside0.mk (Nat.le_trans (zz9 : Upd None0 w _).size hge)
      replace B_t := Aside0.mk (hu.blk zz32 (fun h => h))
      replace B_H := Aside0.mk (hu.blk zz26 (fun h => h))
      replace P_m := Aside0.mk (Cs.updN (by exact P_m.out.updN lu) hu)
      replace HU := Aside0.mk ((zz9 : Upd None0 w _).trans hu (fun _ h => h.elim))
      clear hu
      have B_u := Aside0.mk hbox; clear hbox hge
      (try clear hc_t_0 hc_t_1 hc_t_2 hc_H_0 hc_H_1 hc_H_2 hc_H_3)
      have hc_t_0 := co B_t 0 (.slice none 0 0) rfl; have hc_t_1 := co B_t 1 (.int .i64 0) rfl; have hc_t_2 := co B_t 2 (.int .i64 0) rfl; have hc_H_0 := co B_H 0 (.int .i64 t1) rfl; have hc_H_1 := co B_H 1 (.int .i64 t2) rfl; have hc_H_2 := co B_H 2 (.bool t3) rfl; have hc_H_3 := co B_H 3 (.int .i64 t4) rfl; have hc_u_0 := co B_u 0 (.slice none 0 0) rfl; have hc_u_1 := co B_u 1 (.int .i64 0) rfl; have hc_u_2 := co B_u 2 (.int .i64 0) rfl)
   | ((with_reducible refine gate_store (t := 33) (p := 17) (v := .tmp 72) rfl ?_)
      refine rowput rfl 33 (.tmp 17) (.tmp 72) rfl rfl g_u #[.slice A_m m.length c_m, .int .i64 0, .int .i64 (la + 1)] rfl rfl 33 #[.slice none 0 0, .int .i64 0, .int .i64 0] zz61 zz8 rfl zz17 ?_
      intro w7 hbox hu
      replace B_t := Aside0.mk (hu.blk zz32 NE_t_u.out)
      replace B_H := Aside0.mk (hu.blk zz26 NE_H_u.out)
      replace P_m := Aside0.mk (Cs.updT (by exact P_m.out.updN lu) zz61 zz13 hu)
      replace HU := Aside0.mk ((zz9 : Upd None0 w _).trans hu (fun k hk => .inr (by rw [hk]; exact GE_u.out)))
      clear hu
      clear B_u; have B_u := Aside0.mk hbox; clear hbox
      (try clear hc_t_0 hc_t_1 hc_t_2 hc_H_0 hc_H_1 hc_H_2 hc_H_3 hc_u_0 hc_u_1 hc_u_2)
      have hc_t_0 := co B_t 0 (.slice none 0 0) rfl; have hc_t_1 := co B_t 1 (.int .i64 0) rfl; have hc_t_2 := co B_t 2 (.int .i64 0) rfl; have hc_H_0 := co B_H 0 (.int .i64 t1) rfl; have hc_H_1 := co B_H 1 (.int .i64 t2) rfl; have hc_H_2 := co B_H 2 (.bool t3) rfl; have hc_H_3 := co B_H 3 (.int .i64 t4) rfl; have hc_u_0 := co B_u 0 (.slice A_m m.length c_m) rfl; have hc_u_1 := co B_u 1 (.int .i64 0) rfl; have hc_u_2 := co B_u 2 (.int .i64 (la + 1)) rfl))
  (try simp only [Act.put, List.setIfInBounds_toArray, List.set_cons_zero, List.set_cons_succ])
  clear hc_t_0 hc_t_1 hc_t_2 hc_H_0 hc_H_1 hc_H_2 hc_H_3 hc_u_0 hc_u_1 hc_u_2
  go_loopg [73] g (fun gk v73 wr => ∃ (at_ : Int) (xs : List Ev) (A1 : Option Addr) (c1 : Nat), Aside0 (elX a T most gk true xs at_ (la + 1 + t4) op = some (r1, r2, r3) ∧ la + 1 ≤ at_ ∧ at_ ≤ a.size ∧ (xs.length : Int) + 1 ≤ 3 * at_ ∧ xs.length ≤ c1 ∧ gk ≤ g) ∧ Aside0 (Cs wr A1 xs) ∧ Aside0 (wr.heap[g_t]? = some (.cells #[.slice none 0 0, .int .i64 0, .int .i64 0] 33 (0, 0))) ∧ Aside0 (wr.heap[g_u]? = some (.cells #[.slice A1 xs.length c1, .int .i64 0, .int .i64 at_] 33 (0, 0))) ∧ Aside0 (wr.heap[g_H]? = some (.cells #[.int .i64 t1, .int .i64 t2, .bool t3, .int .i64 t4] 37 (0, 0))) ∧ Aside0 (Upd None0 w wr))
  case atStart => exact ⟨la + 1, m, A_m, c_m, ⟨XR.out, Int.le_refl _, LA.out, LM.out, L_m.out, Nat.le_refl _⟩, P_m, B_t, B_u, B_H, HU⟩
  case round =>
   clear P_m B_t B_u B_H HU L_m
   obtain ⟨at_, xs, A1, c1, HI, P_l, B_t, B_u, B_H, HU⟩ := hrel
   have hat0 : 0 ≤ at_ := by have := HI.out.2.1; omega
   have hat2 : 1 ≤ at_ := by have := HI.out.2.1; omega
   have hat1 : at_ ≤ 700 := by have := HI.out.2.2.1; have := HS7.out; omega
   have hat3 : IntKind.i64.wrap (at_ - 1) = at_ - 1 := by rw [i64_w]; unfold wrap64; omega
   cases gk with
   | zero => exact absurd HI.out.1 (by simp [elX])
   | succ g2 =>
   have h9 := HI.out.1
   simp only [elX] at h9
   by_cases hlt : at_ < la + 1 + t4
   case neg =>
    rw [if_neg hlt] at h9
    simp only [Option.some.injEq, Prod.mk.injEq] at h9
    obtain ⟨e1, e2, e3⟩ := h9
    subst e2 e3
    have hltd : decide (at_ < la + 1 + t4) = false := decide_eq_false hlt
    have X5 := Aside0.mk (show xs ++ [(⟨5, IntKind.i64.wrap (at_ - 1), ⟨0, 0, false, 0⟩, 0⟩ : Ev)] = r1 by rw [hat3]; exact e1)
    clear hat3
    have LX := Aside0.mk (show xs.length ≤ 1000000 by have := HI.out.2.2.2.1; omega)
    clear e1 hlt
    have hf_t_0 : wr.frozen? ⟨g_t, 0, none⟩ = false := blk_frozen B_t.out 0; have hc_t_0 := co B_t 0 (.slice none 0 0) rfl; have hf_t_1 : wr.frozen? ⟨g_t, 1, none⟩ = false := blk_frozen B_t.out 1; have hc_t_1 := co B_t 1 (.int .i64 0) rfl; have hf_t_2 : wr.frozen? ⟨g_t, 2, none⟩ = false := blk_frozen B_t.out 2; have hc_t_2 := co B_t 2 (.int .i64 0) rfl; have hc_u_0 := co B_u 0 (.slice A1 xs.length c1) rfl; have hc_u_1 := co B_u 1 (.int .i64 0) rfl; have hc_u_2 := co B_u 2 (.int .i64 at_) rfl; have hc_H_0 := co B_H 0 (.int .i64 t1) rfl; have hc_H_1 := co B_H 1 (.int .i64 t2) rfl; have hc_H_2 := co B_H 2 (.bool t3) rfl; have hc_H_3 := co B_H 3 (.int .i64 t4) rfl
    go_wp2
    clear hltd B_H hc_H_0 hc_H_1 hc_H_2 hc_H_3
    (try clear y1)
    (try clear y2)
    (try clear y3)
    (try clear y4)
    (try clear y5)
    (try clear hs)
    (try clear hp0)
    (try clear hp1)
    (try clear hn0)
    (try clear hn1)
    (try clear ho0)
    (try clear ho1)
    (try clear hm0)
    (try clear hm1)
    (try clear hla0)
    (try clear hla1)
    (try clear ht0)
    (try clear ht1)
    (try clear hla2)
    (try clear hpl)
    (try clear hlp)
    (try clear HT)
    (try clear IH)
    (try clear XR)
    (try clear LM)
    (try clear LA)
    (try clear HS)
    (try clear HS7)
    (try clear X2)
    (try clear LC)
    (try clear LL)
    (try clear hcase)
    (try clear hu_)
    (try clear NE_H_t)
    (try clear NE_H_u)
    (try clear GE_H)
    (try clear GE_u)
    go_region_held3 (fun w' => w'.cell? ⟨g_u, 0, none⟩ = some (.slice A1 xs.length c1) ∧ w'.cell? ⟨g_u, 2, none⟩ = some (.int .i64 at_)) (first | go_keep | exact ⟨hc_u_0, hc_u_2⟩ | (have nz_ : g_u ≠ g_t := Ne.symm NE_t_u.out; exact ⟨(cell_far (p := ⟨g_t, 2, none⟩) nz_ _).trans ((cell_far (p := ⟨g_t, 1, none⟩) nz_ _).trans ((cell_far (p := ⟨g_t, 0, none⟩) nz_ _).trans hc_u_0)), (cell_far (p := ⟨g_t, 2, none⟩) nz_ _).trans ((cell_far (p := ⟨g_t, 1, none⟩) nz_ _).trans ((cell_far (p := ⟨g_t, 0, none⟩) nz_ _).trans hc_u_2))⟩)) (first
     | (go_at_call 28
        (with_reducible refine (and_any A1 c1 xs _ 5 (IntKind.i64.wrap (at_ - 1)) 0 0 false 0 0 _ zz34 HI.out.2.2.2.2.1 LX.out X5.out).mono ?_)
        rintro e w1 ⟨A_f, c_f, rfl, hC2, hle2, hb⟩
        have hu := (Upd.of_below hb : Upd None0 _ _)
        replace B_t := Aside0.mk (hu.blk zz32 (fun h => h))
        replace B_u := Aside0.mk (hu.blk zz61 (fun h => h))
        replace P_l := Aside0.mk (Cs.updN zz34 hu)
        replace HU := Aside0.mk ((zz9 : Upd None0 w _).trans hu (fun _ h => h.elim))
        clear hu
        have P_f := Aside0.mk hC2
        have L_f := Aside0.mk hle2
        clear hC2 hle2
        (try clear hc_t_0 hf_t_0 hc_t_1 hf_t_1 hc_t_2 hf_t_2 hc_u_0 hc_u_1 hc_u_2)
        have hf_t_0 : w1.frozen? ⟨g_t, 0, none⟩ = false := blk_frozen B_t.out 0; have hc_t_0 := co B_t 0 (.slice none 0 0) rfl; have hf_t_1 : w1.frozen? ⟨g_t, 1, none⟩ = false := blk_frozen B_t.out 1; have hc_t_1 := co B_t 1 (.int .i64 0) rfl; have hf_t_2 : w1.frozen? ⟨g_t, 2, none⟩ = false := blk_frozen B_t.out 2; have hc_t_2 := co B_t 2 (.int .i64 0) rfl; have hc_u_0 := co B_u 0 (.slice A1 xs.length c1) rfl; have hc_u_1 := co B_u 1 (.int .i64 0) rfl; have hc_u_2 := co B_u 2 (.int .i64 at_) rfl))
    all_goals (
     go_wp2
     have B9 := blk_set (blk_set (blk_set B_t.out 0 (.slice A_f r1.length c_f)) 1 (.int .i64 0)) 2 (.int .i64 at_)
     have U9 := Upd.setCell (Upd.setCell (Upd.setCell (Upd.refl (fun k => k = g_t) w1) (j := 0) (.inl rfl) (.slice A_f r1.length c_f)) (j := 1) (.inl rfl) (.int .i64 0)) (j := 2) (.inl rfl) (.int .i64 at_)
     refine bodyPost_ret (results_c rfl _ _ g_t 33 #[.slice A_f r1.length c_f, .int .i64 0, .int .i64 at_] (0, 0) _ rfl (by first | exact B9 | (refine blk_drew ?_; exact B9)) Try.underlying33 rfl zz8) rfl ?_
     exact ⟨_, _, rfl, P_f.out.updT B_t.out zz13 U9, L_f.out, (HU.out.trans U9 (fun k hk => .inr zz57)).below0⟩)
   case pos =>
    rw [if_pos hlt] at h9
    have hltd : decide (at_ < la + 1 + t4) = true := decide_eq_true hlt
    obtain ⟨⟨q1, q2, q3⟩, hq, h9⟩ := Option.bind_eq_some_iff.mp h9
    have HQ0 := Aside0.mk hat0
    have HQ1 := Aside0.mk HI.out.2.2.1
    have HQ2 := Aside0.mk (show (xs.length : Int) ≤ 3 * at_ by have := HI.out.2.2.2.1; omega)
    have hg2 : g2 < g := by have := HI.out.2.2.2.2.2; omega
    by_cases hq2 : q2 = 0
    case neg =>
     rw [if_pos hq2] at h9
     simp only [Option.some.injEq, Prod.mk.injEq] at h9
     obtain ⟨rfl, rfl, rfl⟩ := h9
     have HQE := Aside0.mk hq
     have y6 : (q2 != 0) = true := bne_iff_ne.2 hq2
     clear hq hq2 hlt
     have hc_t_0 := co B_t 0 (.slice none 0 0) rfl; have hc_t_1 := co B_t 1 (.int .i64 0) rfl; have hc_t_2 := co B_t 2 (.int .i64 0) rfl; have hc_u_0 := co B_u 0 (.slice A1 xs.length c1) rfl; have hc_u_1 := co B_u 1 (.int .i64 0) rfl; have hc_u_2 := co B_u 2 (.int .i64 at_) rfl; have hc_H_0 := co B_H 0 (.int .i64 t1) rfl; have hc_H_1 := co B_H 1 (.int .i64 t2) rfl; have hc_H_2 := co B_H 2 (.bool t3) rfl; have hc_H_3 := co B_H 3 (.int .i64 t4) rfl
     go_wp2_with (first
      | (go_at_call 18
         (with_reducible refine (IH.out g2 zz3 xs A1 c1 at_ _ q1 q2 q3 zz34 HI.out.2.2.2.2.1 HQ0.out HQ1.out HQ2.out HQE.out).mono ?_)
         rintro e w1 ⟨A_q, c_q, rfl, hC2, hle2, hb⟩
         have hu := (Upd.of_below hb : Upd None0 _ _)
         replace B_t := Aside0.mk (hu.blk zz32 (fun h => h))
         replace B_u := Aside0.mk (hu.blk zz61 (fun h => h))
         replace B_H := Aside0.mk (hu.blk zz26 (fun h => h))
         replace P_l := Aside0.mk (Cs.updN zz34 hu)
         replace HU := Aside0.mk ((zz9 : Upd None0 w _).trans hu (fun _ h => h.elim))
         clear hu
         have P_q := Aside0.mk hC2
         have L_q := Aside0.mk hle2
         clear hC2 hle2
         (try clear hc_t_0 hc_t_1 hc_t_2 hc_u_0 hc_u_1 hc_u_2 hc_H_0 hc_H_1 hc_H_2 hc_H_3)
         have hc_t_0 := co B_t 0 (.slice none 0 0) rfl; have hc_t_1 := co B_t 1 (.int .i64 0) rfl; have hc_t_2 := co B_t 2 (.int .i64 0) rfl; have hc_u_0 := co B_u 0 (.slice A1 xs.length c1) rfl; have hc_u_1 := co B_u 1 (.int .i64 0) rfl; have hc_u_2 := co B_u 2 (.int .i64 at_) rfl; have hc_H_0 := co B_H 0 (.int .i64 t1) rfl; have hc_H_1 := co B_H 1 (.int .i64 t2) rfl; have hc_H_2 := co B_H 2 (.bool t3) rfl; have hc_H_3 := co B_H 3 (.int .i64 t4) rfl)
      | ((with_reducible refine gate_store (t := 33) (p := 17) (v := .tmp 92) rfl ?_)
         refine rowput rfl 33 (.tmp 17) (.tmp 92) rfl rfl g_u #[.slice A_q q1.length c_q, .int .i64 q2, .int .i64 q3] rfl rfl 33 #[.slice A1 xs.length c1, .int .i64 0, .int .i64 at_] zz61 zz8 rfl zz17 ?_
         intro w2 hbox hu
         replace B_t := Aside0.mk (hu.blk zz32 NE_t_u.out)
         replace B_H := Aside0.mk (hu.blk zz26 NE_H_u.out)
         replace P_q := Aside0.mk (Cs.updT zz58 zz61 zz13 hu)
         replace HU := Aside0.mk ((zz9 : Upd None0 w _).trans hu (fun k hk => .inr (by rw [hk]; exact GE_u.out)))
         clear hu
         clear B_u; have B_u := Aside0.mk hbox; clear hbox
         (try clear hc_t_0 hc_t_1 hc_t_2 hc_u_0 hc_u_1 hc_u_2 hc_H_0 hc_H_1 hc_H_2 hc_H_3)
         have hc_t_0 := co B_t 0 (.slice none 0 0) rfl; have hc_t_1 := co B_t 1 (.int .i64 0) rfl; have hc_t_2 := co B_t 2 (.int .i64 0) rfl; have hc_u_0 := co B_u 0 (.slice A_q q1.length c_q) rfl; have hc_u_1 := co B_u 1 (.int .i64 q2) rfl; have hc_u_2 := co B_u 2 (.int .i64 q3) rfl; have hc_H_0 := co B_H 0 (.int .i64 t1) rfl; have hc_H_1 := co B_H 1 (.int .i64 t2) rfl; have hc_H_2 := co B_H 2 (.bool t3) rfl; have hc_H_3 := co B_H 3 (.int .i64 t4) rfl)
      | ((with_reducible refine gate_store (t := 33) (p := 12) (v := .tmp 96) rfl ?_)
         refine rowput rfl 33 (.tmp 12) (.tmp 96) rfl rfl g_t #[.slice A_q q1.length c_q, .int .i64 q2, .int .i64 q3] rfl rfl 33 #[.slice none 0 0, .int .i64 0, .int .i64 0] zz32 zz8 rfl zz17 ?_
         intro w3 hbox hu
         replace B_u := Aside0.mk (hu.blk zz61 (Ne.symm NE_t_u.out))
         replace B_H := Aside0.mk (hu.blk zz26 NE_H_t.out)
         replace P_q := Aside0.mk (Cs.updT zz58 zz32 zz13 hu)
         replace HU := Aside0.mk ((zz9 : Upd None0 w _).trans hu (fun k hk => .inr zz57))
         clear hu
         clear B_t; have B_t := Aside0.mk hbox; clear hbox
         (try clear hc_t_0 hc_t_1 hc_t_2 hc_u_0 hc_u_1 hc_u_2 hc_H_0 hc_H_1 hc_H_2 hc_H_3)
         have hc_t_0 := co B_t 0 (.slice A_q q1.length c_q) rfl; have hc_t_1 := co B_t 1 (.int .i64 q2) rfl; have hc_t_2 := co B_t 2 (.int .i64 q3) rfl; have hc_u_0 := co B_u 0 (.slice A_q q1.length c_q) rfl; have hc_u_1 := co B_u 1 (.int .i64 q2) rfl; have hc_u_2 := co B_u 2 (.int .i64 q3) rfl; have hc_H_0 := co B_H 0 (.int .i64 t1) rfl; have hc_H_1 := co B_H 1 (.int .i64 t2) rfl; have hc_H_2 := co B_H 2 (.bool t3) rfl; have hc_H_3 := co B_H 3 (.int .i64 t4) rfl))
     refine bodyPost_ret (results_c rfl _ _ g_t 33 #[.slice A_q q1.length c_q, .int .i64 q2, .int .i64 q3] (0, 0) _ rfl zz32 Try.underlying33 rfl zz8) rfl ?_
     exact ⟨_, _, rfl, P_q.out, L_q.out, HU.out.below0⟩
    case pos =>
     subst hq2
     have HQE := Aside0.mk hq
     have HQN := Aside0.mk (show elX a T most g2 true q1 q3 (la + 1 + t4) op = some (r1, r2, r3) by simpa using h9)
     have hln := elX_len a T most HT.out g2 false xs at_ (la + 1 + t4) (op + 1) 1 (q1, 0, q3) hq hat0 HI.out.2.2.1 rfl (by have := HI.out.2.2.2.1; simp; omega)
     have HQL := Aside0.mk (show la + 1 ≤ q3 ∧ q3 ≤ a.size ∧ (q1.length : Int) + 1 ≤ 3 * q3 from ⟨by have := HI.out.2.1; have := hln.2.1; simp only at this; omega, hln.2.2.2, hln.1⟩)
     clear hq h9 hln hlt
     have hc_t_0 := co B_t 0 (.slice none 0 0) rfl; have hc_t_1 := co B_t 1 (.int .i64 0) rfl; have hc_t_2 := co B_t 2 (.int .i64 0) rfl; have hc_u_0 := co B_u 0 (.slice A1 xs.length c1) rfl; have hc_u_1 := co B_u 1 (.int .i64 0) rfl; have hc_u_2 := co B_u 2 (.int .i64 at_) rfl; have hc_H_0 := co B_H 0 (.int .i64 t1) rfl; have hc_H_1 := co B_H 1 (.int .i64 t2) rfl; have hc_H_2 := co B_H 2 (.bool t3) rfl; have hc_H_3 := co B_H 3 (.int .i64 t4) rfl
     go_wp2_with (first
      | (go_at_call 18
         (with_reducible refine (IH.out g2 zz3 xs A1 c1 at_ _ q1 0 q3 zz34 HI.out.2.2.2.2.1 HQ0.out HQ1.out HQ2.out HQE.out).mono ?_)
         rintro e w1 ⟨A_q, c_q, rfl, hC2, hle2, hb⟩
         have hu := (Upd.of_below hb : Upd None0 _ _)
         replace B_t := Aside0.mk (hu.blk zz32 (fun h => h))
         replace B_u := Aside0.mk (hu.blk zz61 (fun h => h))
         replace B_H := Aside0.mk (hu.blk zz26 (fun h => h))
         replace P_l := Aside0.mk (Cs.updN zz34 hu)
         replace HU := Aside0.mk ((zz9 : Upd None0 w _).trans hu (fun _ h => h.elim))
         clear hu
         have P_q := Aside0.mk hC2
         have L_q := Aside0.mk hle2
         clear hC2 hle2
         (try clear hc_t_0 hc_t_1 hc_t_2 hc_u_0 hc_u_1 hc_u_2 hc_H_0 hc_H_1 hc_H_2 hc_H_3)
         have hc_t_0 := co B_t 0 (.slice none 0 0) rfl; have hc_t_1 := co B_t 1 (.int .i64 0) rfl; have hc_t_2 := co B_t 2 (.int .i64 0) rfl; have hc_u_0 := co B_u 0 (.slice A1 xs.length c1) rfl; have hc_u_1 := co B_u 1 (.int .i64 0) rfl; have hc_u_2 := co B_u 2 (.int .i64 at_) rfl; have hc_H_0 := co B_H 0 (.int .i64 t1) rfl; have hc_H_1 := co B_H 1 (.int .i64 t2) rfl; have hc_H_2 := co B_H 2 (.bool t3) rfl; have hc_H_3 := co B_H 3 (.int .i64 t4) rfl)
      | ((with_reducible refine gate_store (t := 33) (p := 17) (v := .tmp 92) rfl ?_)
         refine rowput rfl 33 (.tmp 17) (.tmp 92) rfl rfl g_u #[.slice A_q q1.length c_q, .int .i64 0, .int .i64 q3] rfl rfl 33 #[.slice A1 xs.length c1, .int .i64 0, .int .i64 at_] zz61 zz8 rfl zz17 ?_
         intro w2 hbox hu
         replace B_t := Aside0.mk (hu.blk zz32 NE_t_u.out)
         replace B_H := Aside0.mk (hu.blk zz26 NE_H_u.out)
         replace P_q := Aside0.mk (Cs.updT zz58 zz61 zz13 hu)
         replace HU := Aside0.mk ((zz9 : Upd None0 w _).trans hu (fun k hk => .inr (by rw [hk]; exact GE_u.out)))
         clear hu
         clear B_u; have B_u := Aside0.mk hbox; clear hbox
         (try clear hc_t_0 hc_t_1 hc_t_2 hc_u_0 hc_u_1 hc_u_2 hc_H_0 hc_H_1 hc_H_2 hc_H_3)
         have hc_t_0 := co B_t 0 (.slice none 0 0) rfl; have hc_t_1 := co B_t 1 (.int .i64 0) rfl; have hc_t_2 := co B_t 2 (.int .i64 0) rfl; have hc_u_0 := co B_u 0 (.slice A_q q1.length c_q) rfl; have hc_u_1 := co B_u 1 (.int .i64 0) rfl; have hc_u_2 := co B_u 2 (.int .i64 q3) rfl; have hc_H_0 := co B_H 0 (.int .i64 t1) rfl; have hc_H_1 := co B_H 1 (.int .i64 t2) rfl; have hc_H_2 := co B_H 2 (.bool t3) rfl; have hc_H_3 := co B_H 3 (.int .i64 t4) rfl))
     go_roundg g2
     case measure => omega
     case rel => exact ⟨q3, q1, A_q, c_q, ⟨HQN.out, HQL.out.1, HQL.out.2.1, HQL.out.2.2, L_q.out, by have := HI.out.2.2.2.2.2; omega⟩, P_q, B_t, B_u, B_H, HU⟩
end Go.Proofs.Ytpfconocipmcjaa.PC
namespace Go.Proofs.Ytpfconocipmcjaa.PC
open RowKit YtpfconocipmcjaaW.PrintWords YtpfconocipmcjaaW.PrintLast YtpfconocipmcjaaW.PrintMore Own
attribute [local go_sem] max2_int min2_int max_two min_two max_three min_three max_four min_four
set_option linter.unusedVariables false
set_option linter.unusedSimpArgs false
set_option maxHeartbeats 8000000 in
set_option maxRecDepth 100000 in
theorem elem_err (a : ByteArray) (A : Option Addr) (c : Nat) (l : List Ev) (p en op most t1 t2 : Int) (t3 : Bool) (t4 la er : Int) (w : World) (hC : Cs w A l) (hc : l.length ≤ c) (hl : l.length ≤ 10000) (hs : a.size ≤ 700) (hp0 : 0 ≤ p) (hp1 : p ≤ a.size) (hn0 : -1 ≤ en) (hn1 : en ≤ 2305843009213694999) (ho0 : 0 ≤ op) (ho1 : op ≤ 64) (hm0 : 0 ≤ most) (hm1 : most ≤ 64) (hst : ∀ w, Calls Try.prog 26 #[.string a, .int .i64 p, .int .i64 en] w fun e w' => e = .returned (.tuple #[.agg #[.int .i64 t1, .int .i64 t2, .bool t3, .int .i64 t4], .int .i64 la, .int .i64 er]) ∧ Below w.heap.size w w') (he : ¬ er = 0) :
 Calls Try.prog 18 #[.string a, .slice A l.length c, .int .i64 p, .int .i64 en, .int .i64 op, .int .i64 most] w fun e w' => ∃ A2 c2, e = .returned (.agg #[.slice A2 l.length c2, .int .i64 er, .int .i64 la]) ∧ Cs w' A2 l ∧ l.length ≤ c2 ∧ Below w.heap.size w w' := by
 have P_l := Aside0.mk hC
 have LC := Aside0.mk hc
 have HU := Aside0.mk (Upd.refl None0 w)
 have HS := Aside0.mk hst
 have LL := Aside0.mk (show l.length ≤ 1000000 by omega)
 have y1 : (er != 0) = true := bne_iff_ne.2 he
 clear hC hc hst hl
 go_enter Try.func18, Try.ntmps18
 go_wp2_with (first
  | ((with_reducible refine gate_dst (N := 12) rfl ?_)
     refine boxnew ?hg (N := 12) ?hd (cs := #[.slice none 0 0, .int .i64 0, .int .i64 0]) (t := 33) ?hr ?_; (case hd => rfl); (case hg => rfl); (case hr => first | (go_simp; done) | (go_simp; rfl))
     intro g_t hge w1 hbox hu
     have GE_t := Aside0.mk (Nat.le_trans (zz9 : Upd None0 w _).size hge)
     replace P_l := Aside0.mk (Cs.updN zz34 hu)
     replace HU := Aside0.mk ((zz9 : Upd None0 w _).trans hu (fun _ h => h.elim))
     clear hu
     have B_t := Aside0.mk hbox; clear hbox hge
     have hc_t_0 := co B_t 0 (.slice none 0 0) rfl; have hc_t_1 := co B_t 1 (.int .i64 0) rfl; have hc_t_2 := co B_t 2 (.int .i64 0) rfl)
  | (go_at_call 26
     (with_reducible refine (HS.out _).mono ?_)
     rintro e w2 ⟨rfl, hb⟩
     have hu := (Upd.of_below hb : Upd None0 _ _)
     replace B_t := Aside0.mk (hu.blk zz32 (fun h => h))
     replace P_l := Aside0.mk (Cs.updN zz34 hu)
     replace HU := Aside0.mk ((zz9 : Upd None0 w _).trans hu (fun _ h => h.elim))
     clear hu
     (try clear hc_t_0 hc_t_1 hc_t_2)
     have hc_t_0 := co B_t 0 (.slice none 0 0) rfl; have hc_t_1 := co B_t 1 (.int .i64 0) rfl; have hc_t_2 := co B_t 2 (.int .i64 0) rfl)
  | ((with_reducible refine gate_dst (N := 13) rfl ?_)
     refine boxnew ?hg (N := 13) ?hd (cs := #[.int .i64 0, .int .i64 0, .bool false, .int .i64 0]) (t := 37) ?hr ?_; (case hd => rfl); (case hg => rfl); (case hr => first | (go_simp; done) | (go_simp; rfl))
     intro g_H hge w3 hbox hu
     have NE_H_t := Aside0.mk (Ne.symm (blk_fresh zz32 hge))
     have GE_H := Aside0.mk (Nat.le_trans (zz9 : Upd None0 w _).size hge)
     replace B_t := Aside0.mk (hu.blk zz32 (fun h => h))
     replace P_l := Aside0.mk (Cs.updN zz34 hu)
     replace HU := Aside0.mk ((zz9 : Upd None0 w _).trans hu (fun _ h => h.elim))
     clear hu
     have B_H := Aside0.mk hbox; clear hbox hge
     (try clear hc_t_0 hc_t_1 hc_t_2)
     have hc_t_0 := co B_t 0 (.slice none 0 0) rfl; have hc_t_1 := co B_t 1 (.int .i64 0) rfl; have hc_t_2 := co B_t 2 (.int .i64 0) rfl; have hc_H_0 := co B_H 0 (.int .i64 0) rfl; have hc_H_1 := co B_H 1 (.int .i64 0) rfl; have hc_H_2 := co B_H 2 (.bool false) rfl; have hc_H_3 := co B_H 3 (.int .i64 0) rfl)
  | ((with_reducible refine gate_store (t := 37) (p := 13) (v := .tmp 23) rfl ?_)
     refine rowput rfl 37 (.tmp 13) (.tmp 23) rfl rfl g_H #[.int .i64 t1, .int .i64 t2, .bool t3, .int .i64 t4] rfl rfl 37 #[.int .i64 0, .int .i64 0, .bool false, .int .i64 0] zz26 zz8 rfl zz17 ?_
     intro w4 hbox hu
     replace B_t := Aside0.mk (hu.blk zz32 (Ne.symm NE_H_t.out))
     replace P_l := Aside0.mk (Cs.updT zz34 zz26 zz13 hu)
     replace HU := Aside0.mk ((zz9 : Upd None0 w _).trans hu (fun k hk => .inr zz41))
     clear hu
     clear B_H; have B_H := Aside0.mk hbox; clear hbox
     (try clear hc_t_0 hc_t_1 hc_t_2 hc_H_0 hc_H_1 hc_H_2 hc_H_3)
     have hc_t_0 := co B_t 0 (.slice none 0 0) rfl; have hc_t_1 := co B_t 1 (.int .i64 0) rfl; have hc_t_2 := co B_t 2 (.int .i64 0) rfl; have hc_H_0 := co B_H 0 (.int .i64 t1) rfl; have hc_H_1 := co B_H 1 (.int .i64 t2) rfl; have hc_H_2 := co B_H 2 (.bool t3) rfl; have hc_H_3 := co B_H 3 (.int .i64 t4) rfl)
  | ((with_reducible refine gate_store (t := 33) (p := 12) (v := .tmp 31) rfl ?_)
     refine rowput rfl 33 (.tmp 12) (.tmp 31) rfl rfl g_t #[.slice A l.length c, .int .i64 er, .int .i64 la] rfl rfl 33 #[.slice none 0 0, .int .i64 0, .int .i64 0] zz32 zz8 rfl zz17 ?_
     intro w5 hbox hu
     replace B_H := Aside0.mk (hu.blk zz26 NE_H_t.out)
     replace P_l := Aside0.mk (Cs.updT zz34 zz32 zz13 hu)
     replace HU := Aside0.mk ((zz9 : Upd None0 w _).trans hu (fun k hk => .inr zz57))
     clear hu
     clear B_t; have B_t := Aside0.mk hbox; clear hbox
     (try clear hc_t_0 hc_t_1 hc_t_2 hc_H_0 hc_H_1 hc_H_2 hc_H_3)
     have hc_t_0 := co B_t 0 (.slice A l.length c) rfl; have hc_t_1 := co B_t 1 (.int .i64 er) rfl; have hc_t_2 := co B_t 2 (.int .i64 la) rfl; have hc_H_0 := co B_H 0 (.int .i64 t1) rfl; have hc_H_1 := co B_H 1 (.int .i64 t2) rfl; have hc_H_2 := co B_H 2 (.bool t3) rfl; have hc_H_3 := co B_H 3 (.int .i64 t4) rfl))
 refine bodyPost_ret (results_c rfl _ _ g_t 33 #[.slice A l.length c, .int .i64 er, .int .i64 la] (0, 0) _ rfl zz32 Try.underlying33 rfl zz8) rfl ?_
 exact ⟨_, _, rfl, P_l.out, LC.out, HU.out.below0⟩
set_option maxHeartbeats 8000000 in
set_option maxRecDepth 100000 in
theorem elem_big (a : ByteArray) (A : Option Addr) (c : Nat) (l : List Ev) (p en op most t1 t2 : Int) (t3 : Bool) (t4 la er : Int) (w : World) (hC : Cs w A l) (hc : l.length ≤ c) (hl : l.length ≤ 10000) (hs : a.size ≤ 700) (hp0 : 0 ≤ p) (hp1 : p ≤ a.size) (hn0 : -1 ≤ en) (hn1 : en ≤ 2305843009213694999) (ho0 : 0 ≤ op) (ho1 : op ≤ 64) (hm0 : 0 ≤ most) (hm1 : most ≤ 64) (hst : ∀ w, Calls Try.prog 26 #[.string a, .int .i64 p, .int .i64 en] w fun e w' => e = .returned (.tuple #[.agg #[.int .i64 t1, .int .i64 t2, .bool t3, .int .i64 t4], .int .i64 la, .int .i64 er]) ∧ Below w.heap.size w w') (he : er = 0) (hla0 : 0 ≤ la) (hla1 : la ≤ 700) (ht0 : 0 ≤ t4) (ht1 : t4 ≤ 2305843009213693951) (hb0 : 0 ≤ en) (hb1 : en - (la + 1) < t4) :
 Calls Try.prog 18 #[.string a, .slice A l.length c, .int .i64 p, .int .i64 en, .int .i64 op, .int .i64 most] w fun e w' => ∃ A2 c2, e = .returned (.agg #[.slice A2 l.length c2, .int .i64 5, .int .i64 la]) ∧ Cs w' A2 l ∧ l.length ≤ c2 ∧ Below w.heap.size w w' := by
 have P_l := Aside0.mk hC
 have LC := Aside0.mk hc
 have HU := Aside0.mk (Upd.refl None0 w)
 have HS := Aside0.mk hst
 have LL := Aside0.mk (show l.length ≤ 1000000 by omega)
 subst he
 have y2 : decide (0 ≤ en) = true := decide_eq_true hb0
 have y3 : decide (en - (la + 1) < t4) = true := decide_eq_true hb1
 clear hC hc hst hl
 go_enter Try.func18, Try.ntmps18
 go_wp2_with (first
  | ((with_reducible refine gate_dst (N := 12) rfl ?_)
     refine boxnew ?hg (N := 12) ?hd (cs := #[.slice none 0 0, .int .i64 0, .int .i64 0]) (t := 33) ?hr ?_; (case hd => rfl); (case hg => rfl); (case hr => first | (go_simp; done) | (go_simp; rfl))
     intro g_t hge w1 hbox hu
     have GE_t := Aside0.mk (Nat.le_trans (zz9 : Upd None0 w _).size hge)
     replace P_l := Aside0.mk (Cs.updN zz34 hu)
     replace HU := Aside0.mk ((zz9 : Upd None0 w _).trans hu (fun _ h => h.elim))
     clear hu
     have B_t := Aside0.mk hbox; clear hbox hge
     have hc_t_0 := co B_t 0 (.slice none 0 0) rfl; have hc_t_1 := co B_t 1 (.int .i64 0) rfl; have hc_t_2 := co B_t 2 (.int .i64 0) rfl)
  | (go_at_call 26
     (with_reducible refine (HS.out _).mono ?_)
     rintro e w2 ⟨rfl, hb⟩
     have hu := (Upd.of_below hb : Upd None0 _ _)
     replace B_t := Aside0.mk (hu.blk zz32 (fun h => h))
     replace P_l := Aside0.mk (Cs.updN zz34 hu)
     replace HU := Aside0.mk ((zz9 : Upd None0 w _).trans hu (fun _ h => h.elim))
     clear hu
     (try clear hc_t_0 hc_t_1 hc_t_2)
     have hc_t_0 := co B_t 0 (.slice none 0 0) rfl; have hc_t_1 := co B_t 1 (.int .i64 0) rfl; have hc_t_2 := co B_t 2 (.int .i64 0) rfl)
  | ((with_reducible refine gate_dst (N := 13) rfl ?_)
     refine boxnew ?hg (N := 13) ?hd (cs := #[.int .i64 0, .int .i64 0, .bool false, .int .i64 0]) (t := 37) ?hr ?_; (case hd => rfl); (case hg => rfl); (case hr => first | (go_simp; done) | (go_simp; rfl))
     intro g_H hge w3 hbox hu
     have NE_H_t := Aside0.mk (Ne.symm (blk_fresh zz32 hge))
     have GE_H := Aside0.mk (Nat.le_trans (zz9 : Upd None0 w _).size hge)
     replace B_t := Aside0.mk (hu.blk zz32 (fun h => h))
     replace P_l := Aside0.mk (Cs.updN zz34 hu)
     replace HU := Aside0.mk ((zz9 : Upd None0 w _).trans hu (fun _ h => h.elim))
     clear hu
     have B_H := Aside0.mk hbox; clear hbox hge
     (try clear hc_t_0 hc_t_1 hc_t_2)
     have hc_t_0 := co B_t 0 (.slice none 0 0) rfl; have hc_t_1 := co B_t 1 (.int .i64 0) rfl; have hc_t_2 := co B_t 2 (.int .i64 0) rfl; have hc_H_0 := co B_H 0 (.int .i64 0) rfl; have hc_H_1 := co B_H 1 (.int .i64 0) rfl; have hc_H_2 := co B_H 2 (.bool false) rfl; have hc_H_3 := co B_H 3 (.int .i64 0) rfl)
  | ((with_reducible refine gate_store (t := 37) (p := 13) (v := .tmp 23) rfl ?_)
     refine rowput rfl 37 (.tmp 13) (.tmp 23) rfl rfl g_H #[.int .i64 t1, .int .i64 t2, .bool t3, .int .i64 t4] rfl rfl 37 #[.int .i64 0, .int .i64 0, .bool false, .int .i64 0] zz26 zz8 rfl zz17 ?_
     intro w4 hbox hu
     replace B_t := Aside0.mk (hu.blk zz32 (Ne.symm NE_H_t.out))
     replace P_l := Aside0.mk (Cs.updT zz34 zz26 zz13 hu)
     replace HU := Aside0.mk ((zz9 : Upd None0 w _).trans hu (fun k hk => .inr zz41))
     clear hu
     clear B_H; have B_H := Aside0.mk hbox; clear hbox
     (try clear hc_t_0 hc_t_1 hc_t_2 hc_H_0 hc_H_1 hc_H_2 hc_H_3)
     have hc_t_0 := co B_t 0 (.slice none 0 0) rfl; have hc_t_1 := co B_t 1 (.int .i64 0) rfl; have hc_t_2 := co B_t 2 (.int .i64 0) rfl; have hc_H_0 := co B_H 0 (.int .i64 t1) rfl; have hc_H_1 := co B_H 1 (.int .i64 t2) rfl; have hc_H_2 := co B_H 2 (.bool t3) rfl; have hc_H_3 := co B_H 3 (.int .i64 t4) rfl)
  | ((with_reducible refine gate_store (t := 33) (p := 12) (v := .tmp 46) rfl ?_)
     refine rowput rfl 33 (.tmp 12) (.tmp 46) rfl rfl g_t #[.slice A l.length c, .int .i64 5, .int .i64 la] rfl rfl 33 #[.slice none 0 0, .int .i64 0, .int .i64 0] zz32 zz8 rfl zz17 ?_
     intro w5 hbox hu
     replace B_H := Aside0.mk (hu.blk zz26 NE_H_t.out)
     replace P_l := Aside0.mk (Cs.updT zz34 zz32 zz13 hu)
     replace HU := Aside0.mk ((zz9 : Upd None0 w _).trans hu (fun k hk => .inr zz57))
     clear hu
     clear B_t; have B_t := Aside0.mk hbox; clear hbox
     (try clear hc_t_0 hc_t_1 hc_t_2 hc_H_0 hc_H_1 hc_H_2 hc_H_3)
     have hc_t_0 := co B_t 0 (.slice A l.length c) rfl; have hc_t_1 := co B_t 1 (.int .i64 5) rfl; have hc_t_2 := co B_t 2 (.int .i64 la) rfl; have hc_H_0 := co B_H 0 (.int .i64 t1) rfl; have hc_H_1 := co B_H 1 (.int .i64 t2) rfl; have hc_H_2 := co B_H 2 (.bool t3) rfl; have hc_H_3 := co B_H 3 (.int .i64 t4) rfl))
 refine bodyPost_ret (results_c rfl _ _ g_t 33 #[.slice A l.length c, .int .i64 5, .int .i64 la] (0, 0) _ rfl zz32 Try.underlying33 rfl zz8) rfl ?_
 exact ⟨_, _, rfl, P_l.out, LC.out, HU.out.below0⟩
set_option maxHeartbeats 8000000 in
set_option maxRecDepth 100000 in
theorem elem_deep (a : ByteArray) (A : Option Addr) (c : Nat) (l : List Ev) (p en op most t1 t2 : Int) (t3 : Bool) (t4 la er : Int) (w : World) (hC : Cs w A l) (hc : l.length ≤ c) (hl : l.length ≤ 10000) (hs : a.size ≤ 700) (hp0 : 0 ≤ p) (hp1 : p ≤ a.size) (hn0 : -1 ≤ en) (hn1 : en ≤ 2305843009213694999) (ho0 : 0 ≤ op) (ho1 : op ≤ 64) (hm0 : 0 ≤ most) (hm1 : most ≤ 64) (hst : ∀ w, Calls Try.prog 26 #[.string a, .int .i64 p, .int .i64 en] w fun e w' => e = .returned (.tuple #[.agg #[.int .i64 t1, .int .i64 t2, .bool t3, .int .i64 t4], .int .i64 la, .int .i64 er]) ∧ Below w.heap.size w w') (he : er = 0) (hla0 : 0 ≤ la) (hla1 : la ≤ 700) (ht0 : 0 ≤ t4) (ht1 : t4 ≤ 2305843009213693951) (hb : ¬ (0 ≤ en ∧ en - (la + 1) < t4)) (h3 : t3 = true) (h4 : op = most) :
 Calls Try.prog 18 #[.string a, .slice A l.length c, .int .i64 p, .int .i64 en, .int .i64 op, .int .i64 most] w fun e w' => ∃ A2 c2, e = .returned (.agg #[.slice A2 l.length c2, .int .i64 10, .int .i64 la]) ∧ Cs w' A2 l ∧ l.length ≤ c2 ∧ Below w.heap.size w w' := by
 have P_l := Aside0.mk hC
 have LC := Aside0.mk hc
 have HU := Aside0.mk (Upd.refl None0 w)
 have HS := Aside0.mk hst
 have LL := Aside0.mk (show l.length ≤ 1000000 by omega)
 have hcase : (decide (0 ≤ en) = true ∧ decide (en - (la + 1) < t4) = false) ∨ (decide (0 ≤ en) = false ∧ True) := by
  by_cases hb0 : 0 ≤ en
  ·
   exact .inl ⟨decide_eq_true hb0, decide_eq_false (fun h => hb ⟨hb0, h⟩)⟩
  ·
   exact .inr ⟨decide_eq_false hb0, trivial⟩
 subst he
 clear hb
 have y5 : (op == most) = true := beq_iff_eq.2 h4
 have y4 : (!t3) = false := by rw [h3]; rfl
 clear h4 h3
 clear hC hc hst hl
 go_enter Try.func18, Try.ntmps18
 rcases hcase with ⟨y2, y3⟩ | ⟨y2, y3⟩
 all_goals
  go_wp2_with (first
   | ((with_reducible refine gate_dst (N := 12) rfl ?_)
      refine boxnew ?hg (N := 12) ?hd (cs := #[.slice none 0 0, .int .i64 0, .int .i64 0]) (t := 33) ?hr ?_; (case hd => rfl); (case hg => rfl); (case hr => first | (go_simp; done) | (go_simp; rfl))
      intro g_t hge w1 hbox hu
      have GE_t := Aside0.mk (Nat.le_trans (zz9 : Upd None0 w _).size hge)
      replace P_l := Aside0.mk (Cs.updN zz34 hu)
      replace HU := Aside0.mk ((zz9 : Upd None0 w _).trans hu (fun _ h => h.elim))
      clear hu
      have B_t := Aside0.mk hbox; clear hbox hge
      have hc_t_0 := co B_t 0 (.slice none 0 0) rfl; have hc_t_1 := co B_t 1 (.int .i64 0) rfl; have hc_t_2 := co B_t 2 (.int .i64 0) rfl)
   | (go_at_call 26
      (with_reducible refine (HS.out _).mono ?_)
      rintro e w2 ⟨rfl, hb⟩
      have hu := (Upd.of_below hb : Upd None0 _ _)
      replace B_t := Aside0.mk (hu.blk zz32 (fun h => h))
      replace P_l := Aside0.mk (Cs.updN zz34 hu)
      replace HU := Aside0.mk ((zz9 : Upd None0 w _).trans hu (fun _ h => h.elim))
      clear hu
      (try clear hc_t_0 hc_t_1 hc_t_2)
      have hc_t_0 := co B_t 0 (.slice none 0 0) rfl; have hc_t_1 := co B_t 1 (.int .i64 0) rfl; have hc_t_2 := co B_t 2 (.int .i64 0) rfl)
   | ((with_reducible refine gate_dst (N := 13) rfl ?_)
      refine boxnew ?hg (N := 13) ?hd (cs := #[.int .i64 0, .int .i64 0, .bool false, .int .i64 0]) (t := 37) ?hr ?_; (case hd => rfl); (case hg => rfl); (case hr => first | (go_simp; done) | (go_simp; rfl))
      intro g_H hge w3 hbox hu
      have NE_H_t := Aside0.mk (Ne.symm (blk_fresh zz32 hge))
      have GE_H := Aside0.mk (Nat.le_trans (zz9 : Upd None0 w _).size hge)
      replace B_t := Aside0.mk (hu.blk zz32 (fun h => h))
      replace P_l := Aside0.mk (Cs.updN zz34 hu)
      replace HU := Aside0.mk ((zz9 : Upd None0 w _).trans hu (fun _ h => h.elim))
      clear hu
      have B_H := Aside0.mk hbox; clear hbox hge
      (try clear hc_t_0 hc_t_1 hc_t_2)
      have hc_t_0 := co B_t 0 (.slice none 0 0) rfl; have hc_t_1 := co B_t 1 (.int .i64 0) rfl; have hc_t_2 := co B_t 2 (.int .i64 0) rfl; have hc_H_0 := co B_H 0 (.int .i64 0) rfl; have hc_H_1 := co B_H 1 (.int .i64 0) rfl; have hc_H_2 := co B_H 2 (.bool false) rfl; have hc_H_3 := co B_H 3 (.int .i64 0) rfl)
   | ((with_reducible refine gate_store (t := 37) (p := 13) (v := .tmp 23) rfl ?_)
      refine rowput rfl 37 (.tmp 13) (.tmp 23) rfl rfl g_H #[.int .i64 t1, .int .i64 t2, .bool t3, .int .i64 t4] rfl rfl 37 #[.int .i64 0, .int .i64 0, .bool false, .int .i64 0] zz26 zz8 rfl zz17 ?_
      intro w4 hbox hu
      replace B_t := Aside0.mk (hu.blk zz32 (Ne.symm NE_H_t.out))
      replace P_l := Aside0.mk (Cs.updT zz34 zz26 zz13 hu)
      replace HU := Aside0.mk ((zz9 : Upd None0 w _).trans hu (fun k hk => .inr zz41))
      clear hu
      clear B_H; have B_H := Aside0.mk hbox; clear hbox
      (try clear hc_t_0 hc_t_1 hc_t_2 hc_H_0 hc_H_1 hc_H_2 hc_H_3)
      have hc_t_0 := co B_t 0 (.slice none 0 0) rfl; have hc_t_1 := co B_t 1 (.int .i64 0) rfl; have hc_t_2 := co B_t 2 (.int .i64 0) rfl; have hc_H_0 := co B_H 0 (.int .i64 t1) rfl; have hc_H_1 := co B_H 1 (.int .i64 t2) rfl; have hc_H_2 := co B_H 2 (.bool t3) rfl; have hc_H_3 := co B_H 3 (.int .i64 t4) rfl)
   | ((with_reducible refine gate_store (t := 33) (p := 12) (v := .tmp 65) rfl ?_)
      refine rowput rfl 33 (.tmp 12) (.tmp 65) rfl rfl g_t #[.slice A l.length c, .int .i64 10, .int .i64 la] rfl rfl 33 #[.slice none 0 0, .int .i64 0, .int .i64 0] zz32 zz8 rfl zz17 ?_
      intro w5 hbox hu
      replace B_H := Aside0.mk (hu.blk zz26 NE_H_t.out)
      replace P_l := Aside0.mk (Cs.updT zz34 zz32 zz13 hu)
      replace HU := Aside0.mk ((zz9 : Upd None0 w _).trans hu (fun k hk => .inr zz57))
      clear hu
      clear B_t; have B_t := Aside0.mk hbox; clear hbox
      (try clear hc_t_0 hc_t_1 hc_t_2 hc_H_0 hc_H_1 hc_H_2 hc_H_3)
      have hc_t_0 := co B_t 0 (.slice A l.length c) rfl; have hc_t_1 := co B_t 1 (.int .i64 10) rfl; have hc_t_2 := co B_t 2 (.int .i64 la) rfl; have hc_H_0 := co B_H 0 (.int .i64 t1) rfl; have hc_H_1 := co B_H 1 (.int .i64 t2) rfl; have hc_H_2 := co B_H 2 (.bool t3) rfl; have hc_H_3 := co B_H 3 (.int .i64 t4) rfl))
  refine bodyPost_ret (results_c rfl _ _ g_t 33 #[.slice A l.length c, .int .i64 10, .int .i64 la] (0, 0) _ rfl zz32 Try.underlying33 rfl zz8) rfl ?_
  exact ⟨_, _, rfl, P_l.out, LC.out, HU.out.below0⟩
theorem elem_any (a : ByteArray) (T : Int → Int → Hd × Int × Int) (hT : GoodT a T) (hS : StartT a T) (hs : a.size ≤ 700) (most : Int) (hm0 : 0 ≤ most) (hm1 : most ≤ 64) : ∀ (g : Nat) (l : List Ev) (A : Option Addr) (c : Nat) (p en op : Int) (w : World) (q1 : List Ev) (q2 q3 : Int), Cs w A l → l.length ≤ c → 0 ≤ p → p ≤ a.size → -1 ≤ en → en ≤ 2305843009213694999 → 0 ≤ op → op ≤ most → (l.length : Int) ≤ 3 * p → elX a T most g false l p en op = some (q1, q2, q3) →
 Calls Try.prog 18 #[.string a, .slice A l.length c, .int .i64 p, .int .i64 en, .int .i64 op, .int .i64 most] w fun e w' => ∃ A2 c2, e = .returned (.agg #[.slice A2 q1.length c2, .int .i64 q2, .int .i64 q3]) ∧ Cs w' A2 q1 ∧ q1.length ≤ c2 ∧ Below w.heap.size w w'
 | 0, l, A, c, p, en, op, w, q1, q2, q3, hC, hc, hp0, hp1, hn0, hn1, ho0, ho1, hl, h => by simp [elX] at h
 | g + 1, l, A, c, p, en, op, w, q1, q2, q3, hC, hc, hp0, hp1, hn0, hn1, ho0, ho1, hl, h => by
   unfold elX at h
   have hst := fun w => hS p en w hp0 hp1 hn0 hn1
   have tt := hT p en hp0 hp1
   have hl2 : l.length ≤ 10000 := by omega
   have ho2 : op ≤ 64 := by omega
   obtain ⟨⟨⟨t1, t2, t3, t4⟩, la, er⟩, hq⟩ : ∃ q, T p en = q := ⟨_, rfl⟩
   rw [hq] at h tt
   simp only [hq] at hst
   by_cases c1 : er = 0
   ·
    rw [if_neg (by simp [c1])] at h
    obtain ⟨b1, b2, b3, b4⟩ := tt c1
    simp only at b1 b2 b3 b4
    by_cases c2 : 0 ≤ en ∧ en - (la + 1) < t4
    ·
     rw [if_pos c2] at h
     simp only [Option.some.injEq, Prod.mk.injEq] at h
     obtain ⟨rfl, rfl, rfl⟩ := h
     exact elem_big a A c l p en op most t1 t2 t3 t4 la er w hC hc hl2 hs hp0 hp1 hn0 hn1 ho0 ho2 hm0 hm1 hst c1 zz3 zz3 b3 b4 c2.1 c2.2
    ·
     rw [if_neg c2] at h
     by_cases c3 : t3 = false
     ·
      rw [if_pos c3] at h
      exact elem_leaf a A c l p en op most t1 t2 t3 t4 la er w hC hc hl2 hs hp0 hp1 hn0 hn1 ho0 ho2 hm0 hm1 hst q1 q2 q3 c1 zz3 zz3 b3 b4 zz3 c2 c3 (Option.some.inj h)
     ·
      rw [if_neg c3] at h
      have c3 : t3 = true := by simpa using c3
      by_cases c4 : op = most
      ·
       rw [if_pos c4] at h
       simp only [Option.some.injEq, Prod.mk.injEq] at h
       obtain ⟨rfl, rfl, rfl⟩ := h
       exact elem_deep a A c l p en op most t1 t2 t3 t4 la er w hC hc hl2 hs hp0 hp1 hn0 hn1 ho0 ho2 hm0 hm1 hst c1 zz3 zz3 b3 b4 c2 c3 c4
      ·
       rw [if_neg c4] at h
       refine elem_cons a A c l p en op most t1 t2 t3 t4 la er w hC hc hl2 hs hp0 hp1 hn0 hn1 ho0 ho2 hm0 hm1 hst g T hT q1 q2 q3 c1 zz3 zz3 b3 b4 zz3 b1 hl c2 c3 c4 ?_ h
       intro g' hg' l' A' c' p' w' r1 r2 r3 hC' hc' hp0' hp1' hl' h'
       exact elem_any a T hT hS hs most hm0 hm1 g' l' A' c' p' (la + 1 + t4) (op + 1) w' r1 r2 r3 hC' hc' hp0' hp1' zz3 zz3 zz3 zz3 hl' h'
   ·
    rw [if_pos c1] at h
    simp only [Option.some.injEq, Prod.mk.injEq] at h
    obtain ⟨rfl, rfl, rfl⟩ := h
    exact elem_err a A c l p en op most t1 t2 t3 t4 la er w hC hc hl2 hs hp0 hp1 hn0 hn1 ho0 ho2 hm0 hm1 hst c1
 termination_by g => g
set_option maxHeartbeats 8000000 in
set_option maxRecDepth 100000 in
theorem refw_more (a : ByteArray) (dp dq : Int) (r1 : List Ev) (r2 r3 : Int) (w : World) (hs : a.size ≤ 700) (hq : dq = mn (mx dp 0) 64) (h2 : r2 = 0) (h3 : r3 < (a.size : Int)) (hE : ∀ w, Calls Try.prog 18 #[.string a, .slice none 0 0, .int .i64 0, .int .i64 (-1), .int .i64 0, .int .i64 dq] w fun e w' => ∃ A2 c2, e = .returned (.agg #[.slice A2 r1.length c2, .int .i64 r2, .int .i64 r3]) ∧ Cs w' A2 r1 ∧ r1.length ≤ c2 ∧ Below w.heap.size w w') :
 Calls Try.prog 12 #[.string a, .int .i64 dp] w fun e w' => ∃ A2 c2, e = .returned (.agg #[.slice A2 r1.length c2, .int .i64 6, .int .i64 r3]) ∧ Cs w' A2 r1 ∧ r1.length ≤ c2 ∧ Below w.heap.size w w' := by
 have EA := Aside0.mk hE
 have HU := Aside0.mk (Upd.refl None0 w)
 have y1 : (r2 == 0) = true := beq_iff_eq.2 h2
 have y2 : decide (r3 < (a.size : Int)) = true := decide_eq_true h3
 clear hE h2 h3
 have hcl : (decide (dp < 0) = true ∧ dq = 0) ∨ (decide (dp < 0) = false ∧ decide (64 < dp) = true ∧ dq = 64) ∨ (decide (dp < 0) = false ∧ decide (64 < dp) = false ∧ dq = dp) := by
  unfold mn mx at hq
  by_cases h1 : dp < 0
  ·
   exact .inl ⟨decide_eq_true h1, zz54⟩
  ·
   by_cases h2 : 64 < dp
   ·
    exact .inr (.inl ⟨decide_eq_false h1, decide_eq_true h2, zz54⟩)
   ·
    exact .inr (.inr ⟨decide_eq_false h1, decide_eq_false h2, zz54⟩)
 clear hq
 rcases hcl with ⟨z1, rfl⟩ | ⟨z1, z2, rfl⟩ | ⟨z1, z2, rfl⟩
 all_goals
  go_enter Try.func12, Try.ntmps12
  go_wp2_with (first
   | ((with_reducible refine gate_dst (N := 4) rfl ?_)
      refine boxnew ?hg (N := 4) ?hd (cs := #[.slice none 0 0, .int .i64 0, .int .i64 0]) (t := 33) ?hr ?_; (case hd => rfl); (case hg => rfl); (case hr => first | (go_simp; done) | (go_simp; rfl))
      intro g_t hge w1 hbox hu
      have GE_t := Aside0.mk (Nat.le_trans (zz9 : Upd None0 w _).size hge)
      replace HU := Aside0.mk ((zz9 : Upd None0 w _).trans hu (fun _ h => h.elim))
      clear hu
      have B_t := Aside0.mk hbox; clear hbox hge
      have hc_t_0 := co B_t 0 (.slice none 0 0) rfl; have hc_t_1 := co B_t 1 (.int .i64 0) rfl; have hc_t_2 := co B_t 2 (.int .i64 0) rfl)
   | (go_at_call 18
      (with_reducible refine (EA.out _).mono ?_)
      rintro e w2 ⟨A_q, c_q, rfl, hC2, hle2, hb⟩
      have hu := (Upd.of_below hb : Upd None0 _ _)
      replace B_t := Aside0.mk (hu.blk zz32 (fun h => h))
      replace HU := Aside0.mk ((zz9 : Upd None0 w _).trans hu (fun _ h => h.elim))
      clear hu
      have P_q := Aside0.mk hC2
      have L_q := Aside0.mk hle2
      clear hC2 hle2
      (try clear hc_t_0 hc_t_1 hc_t_2)
      have hc_t_0 := co B_t 0 (.slice none 0 0) rfl; have hc_t_1 := co B_t 1 (.int .i64 0) rfl; have hc_t_2 := co B_t 2 (.int .i64 0) rfl)
   | ((with_reducible refine gate_dst (N := 5) rfl ?_)
      refine boxnew ?hg (N := 5) ?hd (cs := #[.slice none 0 0, .int .i64 0, .int .i64 0]) (t := 33) ?hr ?_; (case hd => rfl); (case hg => rfl); (case hr => first | (go_simp; done) | (go_simp; rfl))
      intro g_u hge w3 hbox hu
      have NE_t_u := Aside0.mk (blk_fresh zz32 hge)
      have GE_u := Aside0.mk (Nat.le_trans (zz9 : Upd None0 w _).size hge)
      replace B_t := Aside0.mk (hu.blk zz32 (fun h => h))
      replace P_q := Aside0.mk (Cs.updN zz58 hu)
      replace HU := Aside0.mk ((zz9 : Upd None0 w _).trans hu (fun _ h => h.elim))
      clear hu
      have B_u := Aside0.mk hbox; clear hbox hge
      (try clear hc_t_0 hc_t_1 hc_t_2)
      have hc_t_0 := co B_t 0 (.slice none 0 0) rfl; have hc_t_1 := co B_t 1 (.int .i64 0) rfl; have hc_t_2 := co B_t 2 (.int .i64 0) rfl; have hc_u_0 := co B_u 0 (.slice none 0 0) rfl; have hc_u_1 := co B_u 1 (.int .i64 0) rfl; have hc_u_2 := co B_u 2 (.int .i64 0) rfl)
   | ((with_reducible refine gate_store (t := 33) (p := 5) (v := .tmp 12) rfl ?_)
      refine rowput rfl 33 (.tmp 5) (.tmp 12) rfl rfl g_u #[.slice A_q r1.length c_q, .int .i64 r2, .int .i64 r3] rfl rfl 33 #[.slice none 0 0, .int .i64 0, .int .i64 0] zz61 zz8 rfl zz17 ?_
      intro w4 hbox hu
      replace B_t := Aside0.mk (hu.blk zz32 NE_t_u.out)
      replace P_q := Aside0.mk (Cs.updT zz58 zz61 zz13 hu)
      replace HU := Aside0.mk ((zz9 : Upd None0 w _).trans hu (fun k hk => .inr (by rw [hk]; exact GE_u.out)))
      clear hu
      clear B_u; have B_u := Aside0.mk hbox; clear hbox
      (try clear hc_t_0 hc_t_1 hc_t_2 hc_u_0 hc_u_1 hc_u_2)
      have hc_t_0 := co B_t 0 (.slice none 0 0) rfl; have hc_t_1 := co B_t 1 (.int .i64 0) rfl; have hc_t_2 := co B_t 2 (.int .i64 0) rfl; have hc_u_0 := co B_u 0 (.slice A_q r1.length c_q) rfl; have hc_u_1 := co B_u 1 (.int .i64 r2) rfl; have hc_u_2 := co B_u 2 (.int .i64 r3) rfl)
   | ((with_reducible refine gate_store (t := 3) (p := 23) (v := .const (.int .i64 6)) rfl ?_)
      refine cellput rfl 3 (.tmp 23) (.const (.int .i64 6)) rfl rfl g_u 1 (.int .i64 6) rfl rfl 33 #[.slice A_q r1.length c_q, .int .i64 r2, .int .i64 r3] #[.slice A_q r1.length c_q, .int .i64 6, .int .i64 r3] zz61 zz8 zz29 rfl rfl ?_
      intro w5 hbox hu
      replace B_t := Aside0.mk (hu.blk zz32 NE_t_u.out)
      replace P_q := Aside0.mk (Cs.updT zz58 zz61 zz13 hu)
      replace HU := Aside0.mk ((zz9 : Upd None0 w _).trans hu (fun k hk => .inr (by rw [hk]; exact GE_u.out)))
      clear hu
      clear B_u; have B_u := Aside0.mk hbox; clear hbox
      (try clear hc_t_0 hc_t_1 hc_t_2 hc_u_0 hc_u_1 hc_u_2)
      have hc_t_0 := co B_t 0 (.slice none 0 0) rfl; have hc_t_1 := co B_t 1 (.int .i64 0) rfl; have hc_t_2 := co B_t 2 (.int .i64 0) rfl; have hc_u_0 := co B_u 0 (.slice A_q r1.length c_q) rfl; have hc_u_1 := co B_u 1 (.int .i64 6) rfl; have hc_u_2 := co B_u 2 (.int .i64 r3) rfl)
   | ((with_reducible refine gate_store (t := 33) (p := 4) (v := .tmp 24) rfl ?_)
      refine rowput rfl 33 (.tmp 4) (.tmp 24) rfl rfl g_t #[.slice A_q r1.length c_q, .int .i64 6, .int .i64 r3] rfl rfl 33 #[.slice none 0 0, .int .i64 0, .int .i64 0] zz32 zz8 rfl zz17 ?_
      intro w6 hbox hu
      replace B_u := Aside0.mk (hu.blk zz61 (Ne.symm NE_t_u.out))
      replace P_q := Aside0.mk (Cs.updT zz58 zz32 zz13 hu)
      replace HU := Aside0.mk ((zz9 : Upd None0 w _).trans hu (fun k hk => .inr zz57))
      clear hu
      clear B_t; have B_t := Aside0.mk hbox; clear hbox
      (try clear hc_t_0 hc_t_1 hc_t_2 hc_u_0 hc_u_1 hc_u_2)
      have hc_t_0 := co B_t 0 (.slice A_q r1.length c_q) rfl; have hc_t_1 := co B_t 1 (.int .i64 6) rfl; have hc_t_2 := co B_t 2 (.int .i64 r3) rfl; have hc_u_0 := co B_u 0 (.slice A_q r1.length c_q) rfl; have hc_u_1 := co B_u 1 (.int .i64 6) rfl; have hc_u_2 := co B_u 2 (.int .i64 r3) rfl))
  refine bodyPost_ret (results_c rfl _ _ g_t 33 #[.slice A_q r1.length c_q, .int .i64 6, .int .i64 r3] (0, 0) _ rfl zz32 Try.underlying33 rfl zz8) rfl ?_
  exact ⟨_, _, rfl, P_q.out, L_q.out, HU.out.below0⟩
set_option maxHeartbeats 8000000 in
set_option maxRecDepth 100000 in
theorem refw_err (a : ByteArray) (dp dq : Int) (r1 : List Ev) (r2 r3 : Int) (w : World) (hs : a.size ≤ 700) (hq : dq = mn (mx dp 0) 64) (h2 : ¬ r2 = 0) (hE : ∀ w, Calls Try.prog 18 #[.string a, .slice none 0 0, .int .i64 0, .int .i64 (-1), .int .i64 0, .int .i64 dq] w fun e w' => ∃ A2 c2, e = .returned (.agg #[.slice A2 r1.length c2, .int .i64 r2, .int .i64 r3]) ∧ Cs w' A2 r1 ∧ r1.length ≤ c2 ∧ Below w.heap.size w w') :
 Calls Try.prog 12 #[.string a, .int .i64 dp] w fun e w' => ∃ A2 c2, e = .returned (.agg #[.slice A2 r1.length c2, .int .i64 r2, .int .i64 r3]) ∧ Cs w' A2 r1 ∧ r1.length ≤ c2 ∧ Below w.heap.size w w' := by
 have EA := Aside0.mk hE
 have HU := Aside0.mk (Upd.refl None0 w)
 have y1 : (r2 == 0) = false := beq_eq_false_iff_ne.2 h2
 have h3 := h2
 clear hE h2 h3
 have hcl : (decide (dp < 0) = true ∧ dq = 0) ∨ (decide (dp < 0) = false ∧ decide (64 < dp) = true ∧ dq = 64) ∨ (decide (dp < 0) = false ∧ decide (64 < dp) = false ∧ dq = dp) := by
  unfold mn mx at hq
  by_cases h1 : dp < 0
  ·
   exact .inl ⟨decide_eq_true h1, zz54⟩
  ·
   by_cases h2 : 64 < dp
   ·
    exact .inr (.inl ⟨decide_eq_false h1, decide_eq_true h2, zz54⟩)
   ·
    exact .inr (.inr ⟨decide_eq_false h1, decide_eq_false h2, zz54⟩)
 clear hq
 rcases hcl with ⟨z1, rfl⟩ | ⟨z1, z2, rfl⟩ | ⟨z1, z2, rfl⟩
 all_goals
  go_enter Try.func12, Try.ntmps12
  go_wp2_with (first
   | ((with_reducible refine gate_dst (N := 4) rfl ?_)
      refine boxnew ?hg (N := 4) ?hd (cs := #[.slice none 0 0, .int .i64 0, .int .i64 0]) (t := 33) ?hr ?_; (case hd => rfl); (case hg => rfl); (case hr => first | (go_simp; done) | (go_simp; rfl))
      intro g_t hge w1 hbox hu
      have GE_t := Aside0.mk (Nat.le_trans (zz9 : Upd None0 w _).size hge)
      replace HU := Aside0.mk ((zz9 : Upd None0 w _).trans hu (fun _ h => h.elim))
      clear hu
      have B_t := Aside0.mk hbox; clear hbox hge
      have hc_t_0 := co B_t 0 (.slice none 0 0) rfl; have hc_t_1 := co B_t 1 (.int .i64 0) rfl; have hc_t_2 := co B_t 2 (.int .i64 0) rfl)
   | (go_at_call 18
      (with_reducible refine (EA.out _).mono ?_)
      rintro e w2 ⟨A_q, c_q, rfl, hC2, hle2, hb⟩
      have hu := (Upd.of_below hb : Upd None0 _ _)
      replace B_t := Aside0.mk (hu.blk zz32 (fun h => h))
      replace HU := Aside0.mk ((zz9 : Upd None0 w _).trans hu (fun _ h => h.elim))
      clear hu
      have P_q := Aside0.mk hC2
      have L_q := Aside0.mk hle2
      clear hC2 hle2
      (try clear hc_t_0 hc_t_1 hc_t_2)
      have hc_t_0 := co B_t 0 (.slice none 0 0) rfl; have hc_t_1 := co B_t 1 (.int .i64 0) rfl; have hc_t_2 := co B_t 2 (.int .i64 0) rfl)
   | ((with_reducible refine gate_dst (N := 5) rfl ?_)
      refine boxnew ?hg (N := 5) ?hd (cs := #[.slice none 0 0, .int .i64 0, .int .i64 0]) (t := 33) ?hr ?_; (case hd => rfl); (case hg => rfl); (case hr => first | (go_simp; done) | (go_simp; rfl))
      intro g_u hge w3 hbox hu
      have NE_t_u := Aside0.mk (blk_fresh zz32 hge)
      have GE_u := Aside0.mk (Nat.le_trans (zz9 : Upd None0 w _).size hge)
      replace B_t := Aside0.mk (hu.blk zz32 (fun h => h))
      replace P_q := Aside0.mk (Cs.updN zz58 hu)
      replace HU := Aside0.mk ((zz9 : Upd None0 w _).trans hu (fun _ h => h.elim))
      clear hu
      have B_u := Aside0.mk hbox; clear hbox hge
      (try clear hc_t_0 hc_t_1 hc_t_2)
      have hc_t_0 := co B_t 0 (.slice none 0 0) rfl; have hc_t_1 := co B_t 1 (.int .i64 0) rfl; have hc_t_2 := co B_t 2 (.int .i64 0) rfl; have hc_u_0 := co B_u 0 (.slice none 0 0) rfl; have hc_u_1 := co B_u 1 (.int .i64 0) rfl; have hc_u_2 := co B_u 2 (.int .i64 0) rfl)
   | ((with_reducible refine gate_store (t := 33) (p := 5) (v := .tmp 12) rfl ?_)
      refine rowput rfl 33 (.tmp 5) (.tmp 12) rfl rfl g_u #[.slice A_q r1.length c_q, .int .i64 r2, .int .i64 r3] rfl rfl 33 #[.slice none 0 0, .int .i64 0, .int .i64 0] zz61 zz8 rfl zz17 ?_
      intro w4 hbox hu
      replace B_t := Aside0.mk (hu.blk zz32 NE_t_u.out)
      replace P_q := Aside0.mk (Cs.updT zz58 zz61 zz13 hu)
      replace HU := Aside0.mk ((zz9 : Upd None0 w _).trans hu (fun k hk => .inr (by rw [hk]; exact GE_u.out)))
      clear hu
      clear B_u; have B_u := Aside0.mk hbox; clear hbox
      (try clear hc_t_0 hc_t_1 hc_t_2 hc_u_0 hc_u_1 hc_u_2)
      have hc_t_0 := co B_t 0 (.slice none 0 0) rfl; have hc_t_1 := co B_t 1 (.int .i64 0) rfl; have hc_t_2 := co B_t 2 (.int .i64 0) rfl; have hc_u_0 := co B_u 0 (.slice A_q r1.length c_q) rfl; have hc_u_1 := co B_u 1 (.int .i64 r2) rfl; have hc_u_2 := co B_u 2 (.int .i64 r3) rfl)
   | ((with_reducible refine gate_store (t := 33) (p := 4) (v := .tmp 24) rfl ?_)
      refine rowput rfl 33 (.tmp 4) (.tmp 24) rfl rfl g_t #[.slice A_q r1.length c_q, .int .i64 r2, .int .i64 r3] rfl rfl 33 #[.slice none 0 0, .int .i64 0, .int .i64 0] zz32 zz8 rfl zz17 ?_
      intro w5 hbox hu
      replace B_u := Aside0.mk (hu.blk zz61 (Ne.symm NE_t_u.out))
      replace P_q := Aside0.mk (Cs.updT zz58 zz32 zz13 hu)
      replace HU := Aside0.mk ((zz9 : Upd None0 w _).trans hu (fun k hk => .inr zz57))
      clear hu
      clear B_t; have B_t := Aside0.mk hbox; clear hbox
      (try clear hc_t_0 hc_t_1 hc_t_2 hc_u_0 hc_u_1 hc_u_2)
      have hc_t_0 := co B_t 0 (.slice A_q r1.length c_q) rfl; have hc_t_1 := co B_t 1 (.int .i64 r2) rfl; have hc_t_2 := co B_t 2 (.int .i64 r3) rfl; have hc_u_0 := co B_u 0 (.slice A_q r1.length c_q) rfl; have hc_u_1 := co B_u 1 (.int .i64 r2) rfl; have hc_u_2 := co B_u 2 (.int .i64 r3) rfl))
  refine bodyPost_ret (results_c rfl _ _ g_t 33 #[.slice A_q r1.length c_q, .int .i64 r2, .int .i64 r3] (0, 0) _ rfl zz32 Try.underlying33 rfl zz8) rfl ?_
  exact ⟨_, _, rfl, P_q.out, L_q.out, HU.out.below0⟩
set_option maxHeartbeats 8000000 in
set_option maxRecDepth 100000 in
theorem refw_all (a : ByteArray) (dp dq : Int) (r1 : List Ev) (r2 r3 : Int) (w : World) (hs : a.size ≤ 700) (hq : dq = mn (mx dp 0) 64) (h2 : r2 = 0) (h3 : ¬ r3 < (a.size : Int)) (hE : ∀ w, Calls Try.prog 18 #[.string a, .slice none 0 0, .int .i64 0, .int .i64 (-1), .int .i64 0, .int .i64 dq] w fun e w' => ∃ A2 c2, e = .returned (.agg #[.slice A2 r1.length c2, .int .i64 r2, .int .i64 r3]) ∧ Cs w' A2 r1 ∧ r1.length ≤ c2 ∧ Below w.heap.size w w') :
 Calls Try.prog 12 #[.string a, .int .i64 dp] w fun e w' => ∃ A2 c2, e = .returned (.agg #[.slice A2 r1.length c2, .int .i64 r2, .int .i64 r3]) ∧ Cs w' A2 r1 ∧ r1.length ≤ c2 ∧ Below w.heap.size w w' := by
 have EA := Aside0.mk hE
 have HU := Aside0.mk (Upd.refl None0 w)
 have y1 : (r2 == 0) = true := beq_iff_eq.2 h2
 have y2 : decide (r3 < (a.size : Int)) = false := decide_eq_false h3
 clear hE h2 h3
 have hcl : (decide (dp < 0) = true ∧ dq = 0) ∨ (decide (dp < 0) = false ∧ decide (64 < dp) = true ∧ dq = 64) ∨ (decide (dp < 0) = false ∧ decide (64 < dp) = false ∧ dq = dp) := by
  unfold mn mx at hq
  by_cases h1 : dp < 0
  ·
   exact .inl ⟨decide_eq_true h1, zz54⟩
  ·
   by_cases h2 : 64 < dp
   ·
    exact .inr (.inl ⟨decide_eq_false h1, decide_eq_true h2, zz54⟩)
   ·
    exact .inr (.inr ⟨decide_eq_false h1, decide_eq_false h2, zz54⟩)
 clear hq
 rcases hcl with ⟨z1, rfl⟩ | ⟨z1, z2, rfl⟩ | ⟨z1, z2, rfl⟩
 all_goals
  go_enter Try.func12, Try.ntmps12
  go_wp2_with (first
   | ((with_reducible refine gate_dst (N := 4) rfl ?_)
      refine boxnew ?hg (N := 4) ?hd (cs := #[.slice none 0 0, .int .i64 0, .int .i64 0]) (t := 33) ?hr ?_; (case hd => rfl); (case hg => rfl); (case hr => first | (go_simp; done) | (go_simp; rfl))
      intro g_t hge w1 hbox hu
      have GE_t := Aside0.mk (Nat.le_trans (zz9 : Upd None0 w _).size hge)
      replace HU := Aside0.mk ((zz9 : Upd None0 w _).trans hu (fun _ h => h.elim))
      clear hu
      have B_t := Aside0.mk hbox; clear hbox hge
      have hc_t_0 := co B_t 0 (.slice none 0 0) rfl; have hc_t_1 := co B_t 1 (.int .i64 0) rfl; have hc_t_2 := co B_t 2 (.int .i64 0) rfl)
   | (go_at_call 18
      (with_reducible refine (EA.out _).mono ?_)
      rintro e w2 ⟨A_q, c_q, rfl, hC2, hle2, hb⟩
      have hu := (Upd.of_below hb : Upd None0 _ _)
      replace B_t := Aside0.mk (hu.blk zz32 (fun h => h))
      replace HU := Aside0.mk ((zz9 : Upd None0 w _).trans hu (fun _ h => h.elim))
      clear hu
      have P_q := Aside0.mk hC2
      have L_q := Aside0.mk hle2
      clear hC2 hle2
      (try clear hc_t_0 hc_t_1 hc_t_2)
      have hc_t_0 := co B_t 0 (.slice none 0 0) rfl; have hc_t_1 := co B_t 1 (.int .i64 0) rfl; have hc_t_2 := co B_t 2 (.int .i64 0) rfl)
   | ((with_reducible refine gate_dst (N := 5) rfl ?_)
      refine boxnew ?hg (N := 5) ?hd (cs := #[.slice none 0 0, .int .i64 0, .int .i64 0]) (t := 33) ?hr ?_; (case hd => rfl); (case hg => rfl); (case hr => first | (go_simp; done) | (go_simp; rfl))
      intro g_u hge w3 hbox hu
      have NE_t_u := Aside0.mk (blk_fresh zz32 hge)
      have GE_u := Aside0.mk (Nat.le_trans (zz9 : Upd None0 w _).size hge)
      replace B_t := Aside0.mk (hu.blk zz32 (fun h => h))
      replace P_q := Aside0.mk (Cs.updN zz58 hu)
      replace HU := Aside0.mk ((zz9 : Upd None0 w _).trans hu (fun _ h => h.elim))
      clear hu
      have B_u := Aside0.mk hbox; clear hbox hge
      (try clear hc_t_0 hc_t_1 hc_t_2)
      have hc_t_0 := co B_t 0 (.slice none 0 0) rfl; have hc_t_1 := co B_t 1 (.int .i64 0) rfl; have hc_t_2 := co B_t 2 (.int .i64 0) rfl; have hc_u_0 := co B_u 0 (.slice none 0 0) rfl; have hc_u_1 := co B_u 1 (.int .i64 0) rfl; have hc_u_2 := co B_u 2 (.int .i64 0) rfl)
   | ((with_reducible refine gate_store (t := 33) (p := 5) (v := .tmp 12) rfl ?_)
      refine rowput rfl 33 (.tmp 5) (.tmp 12) rfl rfl g_u #[.slice A_q r1.length c_q, .int .i64 r2, .int .i64 r3] rfl rfl 33 #[.slice none 0 0, .int .i64 0, .int .i64 0] zz61 zz8 rfl zz17 ?_
      intro w4 hbox hu
      replace B_t := Aside0.mk (hu.blk zz32 NE_t_u.out)
      replace P_q := Aside0.mk (Cs.updT zz58 zz61 zz13 hu)
      replace HU := Aside0.mk ((zz9 : Upd None0 w _).trans hu (fun k hk => .inr (by rw [hk]; exact GE_u.out)))
      clear hu
      clear B_u; have B_u := Aside0.mk hbox; clear hbox
      (try clear hc_t_0 hc_t_1 hc_t_2 hc_u_0 hc_u_1 hc_u_2)
      have hc_t_0 := co B_t 0 (.slice none 0 0) rfl; have hc_t_1 := co B_t 1 (.int .i64 0) rfl; have hc_t_2 := co B_t 2 (.int .i64 0) rfl; have hc_u_0 := co B_u 0 (.slice A_q r1.length c_q) rfl; have hc_u_1 := co B_u 1 (.int .i64 r2) rfl; have hc_u_2 := co B_u 2 (.int .i64 r3) rfl)
   | ((with_reducible refine gate_store (t := 33) (p := 4) (v := .tmp 24) rfl ?_)
      refine rowput rfl 33 (.tmp 4) (.tmp 24) rfl rfl g_t #[.slice A_q r1.length c_q, .int .i64 r2, .int .i64 r3] rfl rfl 33 #[.slice none 0 0, .int .i64 0, .int .i64 0] zz32 zz8 rfl zz17 ?_
      intro w5 hbox hu
      replace B_u := Aside0.mk (hu.blk zz61 (Ne.symm NE_t_u.out))
      replace P_q := Aside0.mk (Cs.updT zz58 zz32 zz13 hu)
      replace HU := Aside0.mk ((zz9 : Upd None0 w _).trans hu (fun k hk => .inr zz57))
      clear hu
      clear B_t; have B_t := Aside0.mk hbox; clear hbox
      (try clear hc_t_0 hc_t_1 hc_t_2 hc_u_0 hc_u_1 hc_u_2)
      have hc_t_0 := co B_t 0 (.slice A_q r1.length c_q) rfl; have hc_t_1 := co B_t 1 (.int .i64 r2) rfl; have hc_t_2 := co B_t 2 (.int .i64 r3) rfl; have hc_u_0 := co B_u 0 (.slice A_q r1.length c_q) rfl; have hc_u_1 := co B_u 1 (.int .i64 r2) rfl; have hc_u_2 := co B_u 2 (.int .i64 r3) rfl))
  refine bodyPost_ret (results_c rfl _ _ g_t 33 #[.slice A_q r1.length c_q, .int .i64 r2, .int .i64 r3] (0, 0) _ rfl zz32 Try.underlying33 rfl zz8) rfl ?_
  exact ⟨_, _, rfl, P_q.out, L_q.out, HU.out.below0⟩
end Go.Proofs.Ytpfconocipmcjaa.PC
namespace Go.Proofs.Ytpfconocipmcjaa.PC
open RowKit YtpfconocipmcjaaW.PrintWords YtpfconocipmcjaaW.PrintLast YtpfconocipmcjaaW.PrintMore
set_option linter.unusedVariables false
set_option linter.unusedSimpArgs false
def dc (j : Nat) : List Int → List Int
 | [] => []
 | x :: r => (x - (j : Int)) :: r
theorem dc_zero (l : List Int) : dc 0 l = l := by cases l <;> simp [dc]
theorem tk_dc (j : Nat) (l : List Int) (h : ∀ x r, l = x :: r → (j : Int) < x) : Mxm.tk (dc j l) = (dc (j + 1) l, 0) := by
 cases l with
 | nil => rfl
 | cons x r =>
   have := h x r rfl
   simp only [dc, Mxm.tk]
   rw [if_neg zz3]
   refine congrArg (·, (0 : Int)) (congrArg (· :: r) ?_)
   omega
end Go.Proofs.Ytpfconocipmcjaa.PC
