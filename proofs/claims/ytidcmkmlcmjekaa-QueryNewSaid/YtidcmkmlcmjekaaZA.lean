/- The queries, walked by hand: what is looked for, what came, what is answered. Conditions: lists of at most 100000 texts. -/
import Derived.Test.YtidcmkmlcmjekaaPAx0
import Derived.Test.YtidcmkmlcmjekaaPAx8
import Derived.Test.YtidcmkmlcmjekaaOwn
import Derived.Test.YtidcmkmlcmjekaaBs
import Derived.Outline
import Derived.Lib.SliceRun
import Derived.Laws.Rows
import Derived.Laws.BytesArg
namespace Go.Proofs.Ytidcmkmlcmjekaa.PA
open Go.RowKit Go.Proofs.YtidcmkmlcmjekaaW.PrintWords Go.Proofs.YtidcmkmlcmjekaaW.PrintLast Go.Proofs.YtidcmkmlcmjekaaW.PrintMore Go.Proofs.Ytidcmkmlcmjekaa.Own
attribute [local go_sem] max2_int min2_int max_two min_two max_three min_three max_four min_four
set_option linter.unusedVariables false
set_option linter.unusedSimpArgs false
theorem infoStr : (Try.prog.info? 9).map (fun i => (i.zero, i.size, i.bytes)) = some (some (.string ByteArray.empty), 1, 16) := by kernel_rfl
theorem infoAns : (Try.prog.info? 43).map (fun i => (i.zero, i.size, i.bytes)) = some (some (.agg #[.bool false, .string ByteArray.empty]), 2, 24) := by kernel_rfl
theorem str_km (W : World) : ∀ (x : ByteArray) (cs : List Value), Kd.string.K W x cs → Kd.string.M W 0 (fun _ => False) x cs := fun x cs h => h
theorem ans_km (W : World) : ∀ (x : S43) (cs : List Value), k43.K W x cs → k43.M W 0 (fun _ => False) x cs := by
  intro x cs h
  obtain rfl := k43_open h
  exact k43_mkM W 0 _ x

set_option maxHeartbeats 8000000 in
set_option maxRecDepth 100000 in
theorem clone_str (A : Option Addr) (c : Nat) (xs : List ByteArray) (w : World) (hC : Kd.C Kd.string w A xs.length xs) (hc : xs.length ≤ c) (hl : xs.length ≤ 100000) :
    Calls Try.prog 23 #[.slice A xs.length c] w fun e w' => ∃ v, e = .returned v ∧ Kd.string.R 9 w' 0 (New w None0) v xs ∧ Upd None0 w w' := by
  have q22 : ∀ (w : World) (a : Option Addr) (n c n' c' : Nat), (binOp .eql 22 (.slice a n c) (.slice none n' c')).run Try.prog w = .ok (.bool a.isNone) w := fun w a n c n' c' => Lib.run_eql_slice_nil w _ _ a n c n' c' Try.underlying22
  have HU := Aside0.mk (Upd.refl None0 w)
  have HC := Aside0.mk hC
  have HL := Aside0.mk (show (0 + xs.length) * 16 ≤ 140737488355328 by omega)
  by_cases hx : xs = []
  · subst hx
    clear hC hc hl
    simp only [List.length_nil] at HC ⊢
    cases A with
    | none =>
      go_enter Try.func23, Try.ntmps23
      go_wp2
      go_ret
      exact ⟨_, rfl, Kd.R_nil _ _ _ _ _, HU.out⟩
    | some a =>
      go_enter Try.func23, Try.ntmps23
      go_wp2_with (first
        | ((with_reducible refine gate_dst (N := 5) rfl ?_)
           refine row_lit Kd.string 9 rfl (N := 5) rfl (xs := []) (inner := []) ?hr (Reps.none _ _) (by decide) ?_; (case hr => first | (go_simp; done) | (go_simp; rfl))
           intro v1 w1 hr hu
           have R1 := Aside0.mk hr
           have U1 := Aside0.mk hu
           have C1 := Aside0.mk (Kd.C_below HC.out hu.below0)
           clear hr hu)
        | ((with_reducible refine gate_builtin (b := .append) (xs := #[.tmp 5, .tmp 6]) rfl ?_); at_builtin
           refine row_append_rows (Kd.string) (S := New w None0) rfl (.tmp 5) (.tmp 6) 22 9 (.string ByteArray.empty) 16 rfl Try.underlying22 infoStr rfl (by decide) (by omega) v1 [] [] (some a) 0 c rfl rfl ?aO ?aR ?aM ?aL [] rfl ?_
           (case aO => exact R1.out); (case aR => exact C1.out); (case aM => exact str_km _); (case aL => decide)
           intro v2 w2 ho hu
           have R2 := Aside0.mk (row_mono ho (New.later U1.out.size))
           have U2 := Aside0.mk (U1.out.trans hu (fun k hk => .inr ((row_at R1.out hk).elim (fun h => h.elim) id)))
           clear ho hu))
      go_ret
      exact ⟨_, rfl, R2.out, U2.out⟩
  · obtain ⟨a, rfl⟩ : ∃ a, A = some a := by
      cases A with
      | some a => exact ⟨a, rfl⟩
      | none =>
        have h0 : 0 < xs.length := List.length_pos_iff.2 hx
        obtain ⟨x, xs', rfl⟩ := List.exists_cons_of_ne_nil hx
        obtain ⟨_, _, h, _⟩ := Kd.C_get hC x 0 (by decide) (by simp)
        exact absurd h (by simp)
    clear hC
    go_enter Try.func23, Try.ntmps23
    go_wp2_with (first
      | ((with_reducible refine gate_dst (N := 5) rfl ?_)
         refine row_lit Kd.string 9 rfl (N := 5) rfl (xs := []) (inner := []) ?hr (Reps.none _ _) (by decide) ?_; (case hr => first | (go_simp; done) | (go_simp; rfl))
         intro v1 w1 hr hu
         have R1 := Aside0.mk hr
         have U1 := Aside0.mk hu
         have C1 := Aside0.mk (Kd.C_below HC.out hu.below0)
         clear hr hu)
      | ((with_reducible refine gate_builtin (b := .append) (xs := #[.tmp 5, .tmp 6]) rfl ?_); at_builtin
         refine row_append_rows (Kd.string) (S := New w None0) rfl (.tmp 5) (.tmp 6) 22 9 (.string ByteArray.empty) 16 rfl Try.underlying22 infoStr rfl (by decide) (by omega) v1 [] xs (some a) xs.length c rfl rfl ?aO ?aR ?aM ?aL xs rfl ?_
         (case aO => exact R1.out); (case aR => exact C1.out); (case aM => exact str_km _); (case aL => exact HL.out)
         intro v2 w2 ho hu
         have R2 := Aside0.mk (row_mono ho (New.later U1.out.size))
         have U2 := Aside0.mk (U1.out.trans hu (fun k hk => .inr ((row_at R1.out hk).elim (fun h => h.elim) id)))
         clear ho hu))
    go_ret
    exact ⟨_, rfl, R2.out, U2.out⟩

set_option maxHeartbeats 8000000 in
set_option maxRecDepth 100000 in
theorem clone_ans (A : Option Addr) (c : Nat) (xs : List S43) (w : World) (hC : Kd.C k43 w A xs.length xs) (hc : xs.length ≤ c) (hl : xs.length ≤ 100000) :
    Calls Try.prog 24 #[.slice A xs.length c] w fun e w' => ∃ v, e = .returned v ∧ k43.R 43 w' 0 (New w None0) v xs ∧ Upd None0 w w' := by
  have q22 : ∀ (w : World) (a : Option Addr) (n c n' c' : Nat), (binOp .eql 31 (.slice a n c) (.slice none n' c')).run Try.prog w = .ok (.bool a.isNone) w := fun w a n c n' c' => Lib.run_eql_slice_nil w _ _ a n c n' c' Try.underlying31
  have HU := Aside0.mk (Upd.refl None0 w)
  have HC := Aside0.mk hC
  have HL := Aside0.mk (show (0 + xs.length) * 24 ≤ 140737488355328 by omega)
  by_cases hx : xs = []
  · subst hx
    clear hC hc hl
    simp only [List.length_nil] at HC ⊢
    cases A with
    | none =>
      go_enter Try.func24, Try.ntmps24
      go_wp2
      go_ret
      exact ⟨_, rfl, Kd.R_nil _ _ _ _ _, HU.out⟩
    | some a =>
      go_enter Try.func24, Try.ntmps24
      go_wp2_with (first
        | ((with_reducible refine gate_dst (N := 5) rfl ?_)
           refine row_lit k43 43 rfl (N := 5) rfl (xs := []) (inner := []) ?hr (Reps.none _ _) (by decide) ?_; (case hr => first | (go_simp; done) | (go_simp; rfl))
           intro v1 w1 hr hu
           have R1 := Aside0.mk hr
           have U1 := Aside0.mk hu
           have C1 := Aside0.mk (Kd.C_below HC.out hu.below0)
           clear hr hu)
        | ((with_reducible refine gate_builtin (b := .append) (xs := #[.tmp 5, .tmp 6]) rfl ?_); at_builtin
           refine row_append_rows (k43) (S := New w None0) rfl (.tmp 5) (.tmp 6) 31 43 (.agg #[.bool false, .string ByteArray.empty]) 24 rfl Try.underlying31 infoAns rfl (by decide) (by omega) v1 [] [] (some a) 0 c rfl rfl ?aO ?aR ?aM ?aL [] rfl ?_
           (case aO => exact R1.out); (case aR => exact C1.out); (case aM => exact ans_km _); (case aL => decide)
           intro v2 w2 ho hu
           have R2 := Aside0.mk (row_mono ho (New.later U1.out.size))
           have U2 := Aside0.mk (U1.out.trans hu (fun k hk => .inr ((row_at R1.out hk).elim (fun h => h.elim) id)))
           clear ho hu))
      go_ret
      exact ⟨_, rfl, R2.out, U2.out⟩
  · obtain ⟨a, rfl⟩ : ∃ a, A = some a := by
      cases A with
      | some a => exact ⟨a, rfl⟩
      | none =>
        have h0 : 0 < xs.length := List.length_pos_iff.2 hx
        obtain ⟨x, xs', rfl⟩ := List.exists_cons_of_ne_nil hx
        obtain ⟨_, _, h, _⟩ := Kd.C_get hC x 0 (by decide) (by simp)
        exact absurd h (by simp)
    clear hC
    go_enter Try.func24, Try.ntmps24
    go_wp2_with (first
      | ((with_reducible refine gate_dst (N := 5) rfl ?_)
         refine row_lit k43 43 rfl (N := 5) rfl (xs := []) (inner := []) ?hr (Reps.none _ _) (by decide) ?_; (case hr => first | (go_simp; done) | (go_simp; rfl))
         intro v1 w1 hr hu
         have R1 := Aside0.mk hr
         have U1 := Aside0.mk hu
         have C1 := Aside0.mk (Kd.C_below HC.out hu.below0)
         clear hr hu)
      | ((with_reducible refine gate_builtin (b := .append) (xs := #[.tmp 5, .tmp 6]) rfl ?_); at_builtin
         refine row_append_rows (k43) (S := New w None0) rfl (.tmp 5) (.tmp 6) 31 43 (.agg #[.bool false, .string ByteArray.empty]) 24 rfl Try.underlying31 infoAns rfl (by decide) (by omega) v1 [] xs (some a) xs.length c rfl rfl ?aO ?aR ?aM ?aL xs rfl ?_
         (case aO => exact R1.out); (case aR => exact C1.out); (case aM => exact ans_km _); (case aL => exact HL.out)
         intro v2 w2 ho hu
         have R2 := Aside0.mk (row_mono ho (New.later U1.out.size))
         have U2 := Aside0.mk (U1.out.trans hu (fun k hk => .inr ((row_at R1.out hk).elim (fun h => h.elim) id)))
         clear ho hu))
    go_ret
    exact ⟨_, rfl, R2.out, U2.out⟩

set_option maxHeartbeats 8000000 in
set_option maxRecDepth 100000 in
theorem idx_func (A : Option Addr) (c : Nat) (xs : List ByteArray) (p : ByteArray → Bool) (fv : Nat) (w : World) (hC : Kd.C Kd.string w A xs.length xs) (hl : xs.length ≤ 100000) (hfv : fv = 21)
    (hp : ∀ x, x ∈ xs → ∀ W, Calls Try.prog 21 #[.string x] W fun e w' => e = .returned (.bool (p x)) ∧ Below W.heap.size W w') :
    Calls Try.prog 26 #[.slice A xs.length c, .func (.func 21) #[] #[]] w fun e w' => ∃ r : Int, e = .returned (.int .i64 r) ∧ decide (0 ≤ r) = xs.any p ∧ Upd None0 w w' := by
  have HC := Aside0.mk hC
  have HP := Aside0.mk hp
  have HL := Aside0.mk hl
  clear hC hp hl
  go_enter Try.func26, Try.ntmps26
  go_wp2
  go_loopg [8] xs.length (fun gk v8 wr => ∃ i : Nat, v8 = .int .i64 (i : Int) ∧ Aside0 (i ≤ xs.length ∧ xs.length - i ≤ gk ∧ (xs.take i).any p = false) ∧ Aside0 (Upd None0 w wr))
  case atStart => exact ⟨0, rfl, ⟨Nat.zero_le _, by omega, by simp⟩, ⟨Upd.refl _ _⟩⟩
  case round =>
    obtain ⟨i, rfl, HI, HU⟩ := hrel
    have hi0 : (0 : Int) ≤ (i : Int) := by omega
    have him : (i : Int) ≤ 100000 := by have := HI.out.1; have := HL.out; omega
    by_cases hlt : i < xs.length
    · have hltd : decide ((i : Int) < (xs.length : Int)) = true := decide_eq_true (by omega)
      have hlti : (i : Int) < (xs.length : Int) := by omega
      obtain ⟨ad, e1, hx⟩ := Kd.at_string (Kd.C_below HC.out HU.out.below0) (i : Int) hi0 hlti
      cases e1
      obtain ⟨x, hxe⟩ : ∃ x, rdOf ByteArray.empty xs (i : Int) = x := ⟨_, rfl⟩
      rw [hxe] at hx
      have hxi : xs[i] = x := by rw [← hxe]; simp [rdOf, hlt]
      have HM := Aside0.mk (show x ∈ xs by rw [← hxi]; exact List.getElem_mem hlt)
      have htk : xs.take (i + 1) = xs.take i ++ [x] := by rw [List.take_add_one, List.getElem?_eq_getElem hlt, hxi]; rfl
      have HTK := Aside0.mk htk
      have hxn : wr.cell? (ad.add i) = some (.string x) := by simpa using hx
      have HX := Aside0.mk hxi
      clear hxe htk hxi hx
      cases hq : p x with
      | true =>
        have HQ := Aside0.mk hq
        clear hq
        go_wp2_with (first
          | (go_at_call 21
             (with_reducible refine (HP.out x HM.out _).mono ?_)
             rintro e w1 ⟨rfl, hb⟩
             rw [HQ.out]
             have U1 := Aside0.mk (HU.out.trans (Upd.of_below hb : Upd None0 _ _) (fun _ h => h.elim))
             clear hb))
        go_ret
        refine ⟨_, rfl, ?_, U1.out⟩
        rw [decide_eq_true (by omega)]
        refine (List.any_eq_true.2 ⟨x, HM.out, HQ.out⟩).symm
      | false =>
        have HQ := Aside0.mk hq
        clear hq
        go_wp2_with (first
          | (go_at_call 21
             (with_reducible refine (HP.out x HM.out _).mono ?_)
             rintro e w1 ⟨rfl, hb⟩
             rw [HQ.out]
             have U1 := Aside0.mk (HU.out.trans (Upd.of_below hb : Upd None0 _ _) (fun _ h => h.elim))
             clear hb))
        go_roundg (gk - 1)
        case measure => have := HI.out.2.1; omega
        case rel => exact ⟨i + 1, by simp, ⟨by omega, by have := HI.out.2.1; omega, by rw [HTK.out, List.any_append, HI.out.2.2]; simp [HQ.out]⟩, U1⟩
    · have hltd : decide ((i : Int) < (xs.length : Int)) = false := decide_eq_false (by omega)
      go_wp2
      go_ret
      refine ⟨_, rfl, ?_, HU.out⟩
      have h := HI.out.2.2
      rw [List.take_of_length_le (by omega)] at h
      rw [h]; rfl

set_option maxHeartbeats 8000000 in
set_option maxRecDepth 100000 in
theorem con_func (A : Option Addr) (c : Nat) (xs : List ByteArray) (p : ByteArray → Bool) (w : World) (hC : Kd.C Kd.string w A xs.length xs) (hl : xs.length ≤ 100000)
    (hp : ∀ x, x ∈ xs → ∀ W, Calls Try.prog 21 #[.string x] W fun e w' => e = .returned (.bool (p x)) ∧ Below W.heap.size W w') :
    Calls Try.prog 20 #[.slice A xs.length c, .func (.func 21) #[] #[]] w fun e w' => e = .returned (.bool (xs.any p)) ∧ Upd None0 w w' := by
  have HC := Aside0.mk (idx_func A c xs p _ w hC hl rfl hp)
  clear hC hp hl
  go_enter Try.func20, Try.ntmps20
  go_wp2_with (first
    | (go_at_call 26
       (with_reducible refine HC.out.mono ?_)
       rintro e w1 ⟨r, rfl, hr, hu⟩
       have U1 := Aside0.mk hu
       have HR := Aside0.mk hr
       clear hu))
  go_ret
  exact ⟨by simp [← HR.out], U1.out⟩

/-- How many bytes came, as the state has it. -/
def qn (came : List Int) : Int := if came.length ≤ 20 then (came.length : Int) else 21
/-- The state: what is looked for, what is answered, what came, whether there was a beginning. -/
def Qs (w : World) (S : Nat → Prop) (g : Nat) (list : List ByteArray) (ans : List S43) (came : List Int) (begun : Bool) : Prop :=
  S g ∧ ∃ (cs : Array Value) (vl va : Value), w.heap[g]? = some (.cells cs 52 (0, 0)) ∧ cs.size = 24 ∧ cs[0]? = some vl ∧ cs[1]? = some va ∧ (∀ (i : Nat) x, i < 20 → came[i]? = some x → cs[2 + i]? = some (.int .u8 x)) ∧
    cs[22]? = some (.int .i64 (qn came)) ∧ cs[23]? = some (.bool begun) ∧ Kd.string.R 9 w 0 S vl list ∧ k43.R 43 w 0 S va ans
theorem Qs.upd {w W : World} {S T : Nat → Prop} {g : Nat} {list : List ByteArray} {ans : List S43} {came : List Int} {begun : Bool} (h : Qs w S g list ans came begun) (hu : Upd T w W) (hd : ∀ k, S k → ¬ T k) : Qs W S g list ans came begun := by
  obtain ⟨hg, cs, vl, va, hb, h1, h2, h3, h4, h5, h6, hl, ha⟩ := h
  exact ⟨hg, cs, vl, va, hu.blk hb (hd g hg), h1, h2, h3, h4, h5, h6, row_upd hl hu hd, row_upd ha hu hd⟩
theorem Qs.mono {w : World} {S S' : Nat → Prop} {g : Nat} {list : List ByteArray} {ans : List S43} {came : List Int} {begun : Bool} (h : Qs w S g list ans came begun) (hs : ∀ k, S k → S' k) : Qs w S' g list ans came begun := by
  obtain ⟨hg, cs, vl, va, hb, h1, h2, h3, h4, h5, h6, hl, ha⟩ := h
  exact ⟨hs g hg, cs, vl, va, hb, h1, h2, h3, h4, h5, h6, row_mono hl hs, row_mono ha hs⟩
theorem Qs.bnd {w : World} {S : Nat → Prop} {g : Nat} {list : List ByteArray} {ans : List S43} {came : List Int} {begun : Bool} (h : Qs w S g list ans came begun) : Qs w (Bnd w [52, 9, 43] S) g list ans came begun := by
  obtain ⟨hg, cs, vl, va, hb, h1, h2, h3, h4, h5, h6, hl, ha⟩ := h
  exact ⟨Bnd.blk hg hb (by decide), cs, vl, va, hb, h1, h2, h3, h4, h5, h6, Bnd.row hl (by decide), Bnd.row ha (by decide)⟩
theorem Qs.drew {w : World} {S : Nat → Prop} {g : Nat} {list : List ByteArray} {ans : List S43} {came : List Int} {begun : Bool} (h : Qs w S g list ans came begun) : Qs w.drew S g list ans came begun := h.upd (Upd.drew (Upd.refl None0 w)) (fun _ _ h => h)
theorem Qs.drewN {w : World} {S : Nat → Prop} {g : Nat} {list : List ByteArray} {ans : List S43} {came : List Int} {begun : Bool} (h : Qs w S g list ans came begun) (n : Nat) : Qs (w.drewN n) S g list ans came begun := h.upd (Upd.drewN (Upd.refl None0 w) n) (fun _ _ h => h)
theorem Qs.alloc {w : World} {S : Nat → Prop} {g : Nat} {list : List ByteArray} {ans : List S43} {came : List Int} {begun : Bool} (h : Qs w S g list ans came begun) (o : Obj) : Qs (w.alloc o) S g list ans came begun := h.upd (Upd.alloc (Upd.refl None0 w) o) (fun _ _ h => h)
theorem Qs.updN {w W : World} {S : Nat → Prop} {g : Nat} {list : List ByteArray} {ans : List S43} {came : List Int} {begun : Bool} (h : Qs w S g list ans came begun) (hu : Upd None0 w W) : Qs W S g list ans came begun := h.upd hu (fun _ _ h => h)
theorem Qs.updT {w W : World} {S : Nat → Prop} {g : Nat} {list : List ByteArray} {ans : List S43} {came : List Int} {begun : Bool} (h : Qs w S g list ans came begun) {g' t : Nat} {cs : Array Value} (hb : w.heap[g']? = some (.cells cs t (0, 0))) (ht : ∀ q, q ∈ [52, 9, 43] → q ≠ t) (hu : Upd (fun k => k = g') w W) : Qs W S g list ans came begun := (h.bnd.upd hu (Bnd.ne_one hb ht)).mono Bnd.of
theorem Qs.updR {w W : World} {S : Nat → Prop} {g : Nat} {list : List ByteArray} {ans : List S43} {came : List Int} {begun : Bool} {T : Nat → Prop} {α : Type} {d : Kd α} {e : Nat} {v' : Value} {xs : List α} (h : Qs w S g list ans came begun) (hr : d.R e w 0 T v' xs) (ht : ∀ q, q ∈ [52, 9, 43] → q ≠ e) (hu : Upd (fun k => some k = v'.ownBlock) w W) : Qs W S g list ans came begun := (h.bnd.upd hu (Bnd.ne_row hr ht)).mono Bnd.of
theorem Qs.updB {w W : World} {S : Nat → Prop} {g : Nat} {list : List ByteArray} {ans : List S43} {came : List Int} {begun : Bool} {T : Nat → Prop} {E' : List Nat} (h : Qs w S g list ans came begun) (hu : Upd (Bnd w E' T) w W) (hE : ∀ q, q ∈ [52, 9, 43] → q ∉ E') : Qs W S g list ans came begun := (h.bnd.upd hu (fun k h1 h2 => bnd_apart hE h1 h2)).mono Bnd.of
theorem Qs.setT {w : World} {S : Nat → Prop} {g : Nat} {list : List ByteArray} {ans : List S43} {came : List Int} {begun : Bool} (h : Qs w S g list ans came begun) {g' t : Nat} (hb : BlkT w g' t) (ht : ∀ q, q ∈ [52, 9, 43] → q ≠ t) (i : Nat) (u : Value) : Qs (w.setCell ⟨g', i, none⟩ u) S g list ans came begun := by
  obtain ⟨cs, hb⟩ := hb
  exact h.updT hb ht (by rw [setCell_eq_setRow w g' i cs t (0, 0) u hb]; exact upd_setRow _ _ _)
theorem made_row (W : World) (n : Nat) (hn : n ≤ 1000) : k43.R 43 (W.alloc (.cells (madeCells #[.bool false, .string ByteArray.empty] (n * 2)) 43)) 0 (New W None0) (.slice (some ⟨W.heap.size, 0, none⟩) n n) (List.replicate n z43) := by
  have hz : (Value.agg #[.bool false, .string ByteArray.empty]).cells.size = k43.sz := rfl
  have hr := Kd.reps_made (R := k43.M W 0 (fun _ => False)) (z := .agg #[.bool false, .string ByteArray.empty]) hz (by decide) (z0 := z43) (show k43.M W 0 _ z43 [.bool false, .string ByteArray.empty] from k43_mkM W 0 _ z43) n
  have h := row_alloc k43 W 43 hr (by simp; omega)
  simp only [List.length_replicate, Array.toArray_toList] at h
  exact h
theorem qs_make {w W : World} {A2 : Option Addr} {c2 g : Nat} {va : Value} {xs : List ByteArray} {ans : List S43} (hb : W.heap[g]? = some (.cells #[.slice A2 xs.length c2, va, .int .u8 0, .int .u8 0, .int .u8 0, .int .u8 0, .int .u8 0, .int .u8 0, .int .u8 0, .int .u8 0, .int .u8 0, .int .u8 0, .int .u8 0, .int .u8 0, .int .u8 0, .int .u8 0, .int .u8 0, .int .u8 0, .int .u8 0, .int .u8 0, .int .u8 0, .int .u8 0, .int .i64 0, .bool false] 52 (0, 0))) (hg : w.heap.size ≤ g)
    (hl : Kd.string.R 9 W 0 (New w None0) (.slice A2 xs.length c2) xs) (ha : k43.R 43 W 0 (New w None0) va ans) : Qs W (New w None0) g xs ans [] false :=
  ⟨.inr hg, _, _, _, hb, rfl, rfl, rfl, fun i x hi h => by simp at h, rfl, rfl, hl, ha⟩

set_option maxHeartbeats 8000000 in
set_option maxRecDepth 100000 in
theorem new_ok (A : Option Addr) (c : Nat) (xs : List ByteArray) (w : World) (hC : Kd.C Kd.string w A xs.length xs) (hc : xs.length ≤ c) (hl : xs.length ≤ 64)
    (hp : ∀ x, x ∈ xs → ∀ W, Calls Try.prog 21 #[.string x] W fun e w' => e = .returned (.bool false) ∧ Below W.heap.size W w') :
    Calls Try.prog 10 #[.slice A xs.length c] w fun e w' => ∃ g : Nat, e = .returned (.tuple #[.pointer (some ⟨g, 0, none⟩), .int .i64 0]) ∧ Qs w' (New w None0) g xs (List.replicate xs.length z43) [] false ∧ Upd None0 w w' := by
  have HU := Aside0.mk (Upd.refl None0 w)
  have HC := Aside0.mk hC
  have HP := Aside0.mk hp
  have hl2 : ¬ (64 : Int) < (xs.length : Int) := by omega
  have hld : decide ((64 : Int) < (xs.length : Int)) = false := decide_eq_false hl2
  have HL := Aside0.mk (show xs.length ≤ 100000 by omega)
  have HCC := Aside0.mk hc
  have hany : xs.any (fun _ => false) = false := by induction xs with
    | nil => rfl
    | cons a r ih => simp
  have HANY := Aside0.mk hany
  have hmk : ∀ W, (Instr.makeSlice 31 (.int .i64 (xs.length : Int)) (.int .i64 (xs.length : Int))).run Try.prog W = .ok (.slice (some ⟨W.heap.size, 0, none⟩) xs.length xs.length) (W.alloc (.cells (madeCells #[.bool false, .string ByteArray.empty] (xs.length * 2)) 43)) := by
    obtain ⟨i0, hi, hzz⟩ := Option.map_eq_some_iff.1 infoAns
    simp only [Prod.mk.injEq] at hzz
    obtain ⟨hz0, hz1, hz2⟩ := hzz
    intro W
    have hr := run_make (P := Try.prog) W 31 43 i0 (.agg #[.bool false, .string ByteArray.empty]) Try.underlying31 hi hz0 .i64 .i64 (xs.length : Int) (xs.length : Int) (by omega) (by omega) (by rw [hz2]; omega) (by omega)
    simp only [Int.toNat_natCast] at hr
    rw [hz1] at hr
    exact hr
  have hu_ := Try.underlying52
  clear hC hp hc hl hany
  go_enter Try.func10, Try.ntmps10
  go_wp2_with (first
    | (go_at_call 20
       (with_reducible refine (con_func A c xs (fun _ => false) _ HC.out HL.out HP.out).mono ?_)
       rintro e w1 ⟨rfl, hu⟩
       rw [HANY.out]
       replace HC := Aside0.mk (Kd.C_below HC.out hu.below0)
       replace HU := Aside0.mk (HU.out.trans hu (fun _ h => h.elim))
       clear hu))
  go_region_with (first
    | (go_at_call 23
       (with_reducible refine (clone_str A c xs _ (Kd.C_below HC.out (Upd.below0 lu)) HCC.out HL.out).mono ?_)
       rintro e w2 ⟨vl, rfl, hr, hu⟩
       obtain ⟨A2, c2, rfl⟩ := Kd.R_slice hr))
  all_goals (try go_wp2)
  all_goals go_ret2
  · have e : (w2.alloc (.cells (madeCells #[.bool false, .string ByteArray.empty] (xs.length * 2)) 43)).heap.size = w2.heap.size + 1 := Array.size_push _
    have z0 := HU.out.size
    have z1 : w1.heap.size ≤ w2.heap.size := hu.size
    have hln : xs.length ≤ 1000 := by omega
    exact ⟨_, rfl, qs_make (by refine Eq.trans ?_ (heap_alloc_new (w2.alloc (.cells (madeCells #[.bool false, .string ByteArray.empty] (xs.length * 2)) 43)) _); rw [e]) (Nat.le_succ_of_le (Nat.le_trans z0 z1))
      (row_mono (row_upd hr (lu : Upd None0 w2 _) (fun k _ h => h)) (fun k hk => hk.elim (fun h => h.elim) (fun h => .inr (Nat.le_trans z0 h))))
      (row_mono (row_upd (made_row w2 xs.length hln) (lu : Upd None0 _ _) (fun k _ h => h)) (fun k hk => hk.elim (fun h => h.elim) (fun h => .inr (Nat.le_trans (Nat.le_trans z0 z1) h)))),
      (HU.out.trans ((lu : Upd None0 w1 w1.drew).trans hu (fun _ h => h.elim)) (fun _ h => h.elim)).trans (lu : Upd None0 w2 _) (fun _ h => h.elim)⟩
  · have z0 := HU.out.size
    have z1 : w1.heap.size ≤ w2.heap.size := Nat.le_trans (lu : Upd None0 w1 _).size hu.size
    have hln : xs.length ≤ 1000 := by omega
    exact ⟨_, rfl, qs_make (heap_alloc_new w2 _) (Nat.le_trans z0 z1)
      (row_mono (row_upd hr (lu : Upd None0 w2 _) (fun k _ h => h)) (fun k hk => hk.elim (fun h => h.elim) (fun h => .inr (Nat.le_trans z0 (Nat.le_trans (lu : Upd None0 w1 _).size h)))))
      (row_mono (row_upd (row_upd (made_row w1.drew xs.length hln) hu (fun k _ h => h)) (lu : Upd None0 w2 _) (fun k _ h => h)) (fun k hk => hk.elim (fun h => h.elim) (fun h => .inr (Nat.le_trans z0 h)))),
      (HU.out.trans ((lu : Upd None0 w1 _).trans hu (fun _ h => h.elim)) (fun _ h => h.elim)).trans (lu : Upd None0 w2 _) (fun _ h => h.elim)⟩

set_option maxHeartbeats 8000000 in
set_option maxRecDepth 100000 in
theorem new_no (A : Option Addr) (c : Nat) (xs : List ByteArray) (p : ByteArray → Bool) (w : World) (hC : Kd.C Kd.string w A xs.length xs) (hl : xs.length ≤ 100000) (hn : 64 < xs.length ∨ xs.any p = true)
    (hp : ∀ x, x ∈ xs → ∀ W, Calls Try.prog 21 #[.string x] W fun e w' => e = .returned (.bool (p x)) ∧ Below W.heap.size W w') :
    Calls Try.prog 10 #[.slice A xs.length c] w fun e w' => e = .returned (.tuple #[.pointer none, .int .i64 15]) ∧ Upd None0 w w' := by
  have HU := Aside0.mk (Upd.refl None0 w)
  have HC := Aside0.mk hC
  have HP := Aside0.mk hp
  have HL := Aside0.mk hl
  by_cases hl2 : (64 : Int) < (xs.length : Int)
  · have hld : decide ((64 : Int) < (xs.length : Int)) = true := decide_eq_true hl2
    clear hC hp hl hn hl2
    go_enter Try.func10, Try.ntmps10
    go_wp2
    go_ret2
    exact ⟨rfl, HU.out⟩
  · have hld : decide ((64 : Int) < (xs.length : Int)) = false := decide_eq_false hl2
    have HANY := Aside0.mk (hn.resolve_left (by omega))
    clear hC hp hl hn hl2
    go_enter Try.func10, Try.ntmps10
    go_wp2_with (first
      | (go_at_call 20
         (with_reducible refine (con_func A c xs p _ HC.out HL.out HP.out).mono ?_)
         rintro e w1 ⟨rfl, hu⟩
         rw [HANY.out]
         replace HU := Aside0.mk (HU.out.trans hu (fun _ h => h.elim))
         clear hu))
    go_ret2
    exact ⟨rfl, HU.out⟩

theorem q_set {w : World} {S : Nat → Prop} {g i : Nat} {cs : Array Value} (hg : S g) (hb : w.heap[g]? = some (.cells cs 52 (0, 0))) (v : Value) : Upd S w (w.setCell ⟨g, i, none⟩ v) := by
  rw [setCell_eq_setRow w g i cs _ (0, 0) v hb]
  exact (upd_setRow w g _).mono (fun k hk => by rw [hk]; exact hg)
theorem q_set1 {w : World} {g i : Nat} {cs : Array Value} (hb : w.heap[g]? = some (.cells cs 52 (0, 0))) (v : Value) : Upd (fun k => k = g) w (w.setCell ⟨g, i, none⟩ v) := q_set (S := fun k => k = g) rfl hb v
/-- The block's cells turn: what is left. -/
theorem qs_put {w W : World} {S : Nat → Prop} {g : Nat} {cs cs2 : Array Value} {vl va : Value} {list : List ByteArray} {ans : List S43} {came : List Int} {begun : Bool} (hg : S g) (hb : w.heap[g]? = some (.cells cs 52 (0, 0))) (hl : Kd.string.R 9 w 0 S vl list) (ha : k43.R 43 w 0 S va ans)
    (hW : W.heap[g]? = some (.cells cs2 52 (0, 0))) (hu : Upd (fun k => k = g) w W) (h1 : cs2.size = 24) (h2 : cs2[0]? = some vl) (h3 : cs2[1]? = some va) (h4 : ∀ (i : Nat) x, i < 20 → came[i]? = some x → cs2[2 + i]? = some (.int .u8 x)) (h5 : cs2[22]? = some (.int .i64 (qn came))) (h6 : cs2[23]? = some (.bool begun)) :
    Qs W S g list ans came begun ∧ Upd S w W :=
  ⟨⟨hg, cs2, vl, va, hW, h1, h2, h3, h4, h5, h6, row_updT hl hb (by decide) hu, row_updT ha hb (by decide) hu⟩, hu.mono (fun k hk => by rw [hk]; exact hg)⟩

set_option maxHeartbeats 8000000 in
set_option maxRecDepth 100000 in
theorem q_begin (g : Nat) (list : List ByteArray) (ans : List S43) (came : List Int) (begun : Bool) (S : Nat → Prop) (w : World) (hQ : Qs w S g list ans came begun) :
    Calls Try.prog 15 #[.pointer (some ⟨g, 0, none⟩)] w fun e w' => e = .returned (.tuple #[]) ∧ Qs w' S g list ans [] true ∧ Upd S w w' := by
  obtain ⟨hg, cs, vl, va, hb, h1, h2, h3, h4, h5, h6, hl, ha⟩ := hQ
  have hc22 : w.cell? ⟨g, 22, none⟩ = some (.int .i64 (qn came)) := (blk_cell hb 22).trans h5
  have hf22 : w.frozen? ⟨g, 22, none⟩ = false := blk_frozen hb 22
  have hc23 : w.cell? ⟨g, 23, none⟩ = some (.bool begun) := (blk_cell hb 23).trans h6
  have hf23 : w.frozen? ⟨g, 23, none⟩ = false := blk_frozen hb 23
  have K := Aside0.mk (show ∀ W, W = (w.setCell ⟨g, 22, none⟩ (.int .i64 0)).setCell ⟨g, 23, none⟩ (.bool true) → Qs W S g list ans [] true ∧ Upd S w W by
    rintro W rfl
    have hb1 := blk_set hb 22 (.int .i64 0)
    have hb2 := blk_set hb1 23 (.bool true)
    refine qs_put hg hb hl ha hb2 ((q_set1 hb _).trans (q_set1 hb1 _) (fun k hk => .inl hk)) (by simpa using h1) ?_ ?_ (fun i x _ h => by simp at h) ?_ ?_
    · rw [Array.getElem?_setIfInBounds, if_neg (by decide), Array.getElem?_setIfInBounds, if_neg (by decide), h2]
    · rw [Array.getElem?_setIfInBounds, if_neg (by decide), Array.getElem?_setIfInBounds, if_neg (by decide), h3]
    · rw [Array.getElem?_setIfInBounds, if_neg (by decide), Array.getElem?_setIfInBounds, if_pos rfl, if_pos (by omega)]; rfl
    · rw [Array.getElem?_setIfInBounds, if_pos rfl, if_pos (by simp; omega)])
  clear hg hb h1 h2 h3 h4 h5 h6 hl ha
  go_enter Try.func15, Try.ntmps15
  go_wp2
  go_end0
  exact ⟨rfl, K.out _ rfl⟩

set_option maxHeartbeats 8000000 in
set_option maxRecDepth 100000 in
theorem q_push (g : Nat) (list : List ByteArray) (ans : List S43) (came : List Int) (begun : Bool) (S : Nat → Prop) (w : World) (hQ : Qs w S g list ans came begun) (b : Int) :
    Calls Try.prog 16 #[.pointer (some ⟨g, 0, none⟩), .int .u8 b] w fun e w' => e = .returned (.tuple #[]) ∧ Qs w' S g list ans (came ++ [b]) begun ∧ Upd S w w' := by
  obtain ⟨hg, cs, vl, va, hb, h1, h2, h3, h4, h5, h6, hl, ha⟩ := hQ
  have hf22 : w.frozen? ⟨g, 22, none⟩ = false := blk_frozen hb 22
  by_cases hn : came.length < 20
  · obtain ⟨d, hd⟩ : ∃ d, came.length = d := ⟨_, rfl⟩
    have hq : qn came = (d : Int) := by unfold qn; rw [if_pos (by omega), hd]
    rw [hd] at hn
    have hc22 : w.cell? ⟨g, 22, none⟩ = some (.int .i64 (d : Int)) := (blk_cell hb 22).trans (by rw [h5, hq])
    have hcd : ∃ v, w.cell? ⟨g, 2 + d, none⟩ = some v := ⟨cs[2 + d], by rw [blk_cell hb (2 + d)]; simp [h1, show 2 + d < 24 by omega]⟩
    obtain ⟨v0, hcd⟩ := hcd
    have hfd : w.frozen? ⟨g, 2 + d, none⟩ = false := blk_frozen hb _
    have hd0 : (0 : Int) ≤ (d : Int) := by omega
    have hd1 : (d : Int) < 20 := by omega
    have hdd : decide ((d : Int) < 20) = true := decide_eq_true hd1
    have hmn : (if (21 : Int) < (d : Int) + 1 then 21 else (d : Int) + 1) = (d : Int) + 1 := if_neg (by omega)
    have hne : 22 ≠ 2 + d := by omega
    have hne2 : 2 + d ≠ 22 := by omega
    have K := Aside0.mk (show ∀ W, W.heap = ((w.setCell ⟨g, 2 + d, none⟩ (.int .u8 b)).setCell ⟨g, 22, none⟩ (.int .i64 ((d : Int) + 1))).heap → Upd (fun k => k = g) w W → Qs W S g list ans (came ++ [b]) begun ∧ Upd S w W by
      intro W hW hu
      have hb1 := blk_set hb (2 + d) (.int .u8 b)
      have hb2 := blk_set hb1 22 (.int .i64 ((d : Int) + 1))
      refine qs_put hg hb hl ha (by rw [hW]; exact hb2) hu (by simpa using h1) ?_ ?_ ?_ ?_ ?_
      · rw [Array.getElem?_setIfInBounds, if_neg (by decide), Array.getElem?_setIfInBounds, if_neg (by omega), h2]
      · rw [Array.getElem?_setIfInBounds, if_neg (by decide), Array.getElem?_setIfInBounds, if_neg (by omega), h3]
      · intro i x hi hx
        rw [Array.getElem?_setIfInBounds, if_neg (by omega), Array.getElem?_setIfInBounds]
        by_cases hid : i = d
        · subst hid
          rw [if_pos rfl, if_pos (by omega)]
          rw [List.getElem?_append_right (by omega), ← hd, Nat.sub_self] at hx
          simp at hx
          rw [hx]
        · rw [if_neg (by omega)]
          refine h4 i x hi ?_
          have hlt := (List.getElem?_eq_some_iff.1 hx).1
          simp at hlt
          rwa [List.getElem?_append_left (by omega)] at hx
      · rw [Array.getElem?_setIfInBounds, if_pos rfl, if_pos (by simp; omega)]
        unfold qn
        rw [if_pos (by simp; omega)]
        simp [hd]
      · rw [Array.getElem?_setIfInBounds, if_neg (by decide), Array.getElem?_setIfInBounds, if_neg (by omega), h6])
    have U := Aside0.mk (fun (v1 v2 : Value) => ((q_set1 (i := 2 + d) hb v1).trans (q_set1 (i := 22) (blk_set hb (2 + d) v1) v2) (fun k hk => .inl hk) : Upd (fun k => k = g) w _))
    clear hg hb h1 h2 h3 h4 h5 h6 hl ha hq hd
    go_enter Try.func16, Try.ntmps16
    go_wp2
    go_region
    go_wp2
    go_end0
    exact ⟨rfl, K.out _ rfl (by repeat (first | exact U.out _ _ | apply Upd.drew))⟩
  · obtain ⟨d, hd⟩ : ∃ d : Int, qn came = d := ⟨_, rfl⟩
    have hd2 : 20 ≤ d ∧ d ≤ 21 := by rw [← hd]; unfold qn; split <;> omega
    have hq : qn (came ++ [b]) = 21 := by unfold qn; rw [if_neg (by simp; omega)]
    have hc22 : w.cell? ⟨g, 22, none⟩ = some (.int .i64 d) := (blk_cell hb 22).trans (by rw [h5, hd])
    have hdd : decide (d < 20) = false := decide_eq_false (by omega)
    have hmn : (if (21 : Int) < d + 1 then 21 else d + 1) = 21 := by split <;> omega
    have hd3 : 20 ≤ d := hd2.1
    have hd4 : d ≤ 21 := hd2.2
    have K := Aside0.mk (show ∀ W, W = w.setCell ⟨g, 22, none⟩ (.int .i64 21) → Qs W S g list ans (came ++ [b]) begun ∧ Upd S w W by
      rintro W rfl
      refine qs_put hg hb hl ha (blk_set hb 22 _) (q_set1 hb _) (by simpa using h1) ?_ ?_ ?_ ?_ ?_
      · rw [Array.getElem?_setIfInBounds, if_neg (by decide), h2]
      · rw [Array.getElem?_setIfInBounds, if_neg (by decide), h3]
      · intro i x hi hx
        rw [Array.getElem?_setIfInBounds, if_neg (by omega)]
        refine h4 i x hi ?_
        rwa [List.getElem?_append_left (by omega)] at hx
      · rw [Array.getElem?_setIfInBounds, if_pos rfl, if_pos (by omega), hq]
      · rw [Array.getElem?_setIfInBounds, if_neg (by decide), h6])
    clear hg hb h1 h2 h3 h4 h5 h6 hl ha hq hd hd2
    go_enter Try.func16, Try.ntmps16
    go_wp2
    go_end0
    exact ⟨rfl, K.out _ rfl⟩

set_option maxHeartbeats 8000000 in
set_option maxRecDepth 100000 in
theorem q_answers (g : Nat) (list : List ByteArray) (ans : List S43) (came : List Int) (begun : Bool) (S : Nat → Prop) (w : World) (hQ : Qs w S g list ans came begun) (hl0 : ans.length ≤ 100000) :
    Calls Try.prog 13 #[.pointer (some ⟨g, 0, none⟩)] w fun e w' => ∃ v, e = .returned v ∧ k43.R 43 w' 0 (New w None0) v ans ∧ Upd None0 w w' := by
  obtain ⟨hg, cs, vl, va, hb, h1, h2, h3, h4, h5, h6, hl, ha⟩ := hQ
  obtain ⟨A, c, rfl⟩ := Kd.R_slice ha
  have hc1 : w.cell? ⟨g, 1, none⟩ = some (.slice A ans.length c) := (blk_cell hb 1).trans h3
  have HA := Aside0.mk (Kd.R_reads' ha)
  have HL := Aside0.mk hl0
  clear hg hb h1 h2 h3 h4 h5 h6 hl ha hl0
  go_enter Try.func13, Try.ntmps13
  go_wp2_with (first
    | (go_at_call 24
       (with_reducible refine (clone_ans A c ans _ HA.out.2.2 HA.out.2.1 HL.out).mono ?_)
       rintro e w1 ⟨v, rfl, hr, hu⟩))
  go_ret
  exact ⟨_, rfl, hr, hu⟩

def dateF (key date : ByteArray) (s : ByteArray) (a : S43) : S43 := if a.f0 = false ∧ s = key then ⟨true, date⟩ else a
def dateL (key date : ByteArray) (list : List ByteArray) (ans : List S43) : List S43 := List.zipWith (dateF key date) list ans
/-- The answers behind the first i queries. -/
def upto (key date : ByteArray) (list : List ByteArray) (ans : List S43) (i : Nat) : List S43 := (dateL key date list ans).take i ++ ans.drop i
theorem upto_len (key date : ByteArray) (list : List ByteArray) (ans : List S43) (h : list.length = ans.length) (i : Nat) (hi : i ≤ ans.length) : (upto key date list ans i).length = ans.length := by
  unfold upto dateL; simp; omega
theorem upto_at (key date : ByteArray) (list : List ByteArray) (ans : List S43) (h : list.length = ans.length) (i : Nat) (hi : i < ans.length) : (upto key date list ans i)[i]? = some ans[i] := by
  unfold upto dateL
  rw [List.getElem?_append_right (by simp; omega)]
  simp
  rw [show i - min i (min list.length ans.length) = 0 by omega]
  simp
theorem upto_set (key date : ByteArray) (list : List ByteArray) (ans : List S43) (h : list.length = ans.length) (i : Nat) (hi : i < ans.length) (hl : i < list.length) : (upto key date list ans i).set i (dateF key date list[i] ans[i]) = upto key date list ans (i + 1) := by
  apply List.ext_getElem?
  intro j
  rw [List.getElem?_set]
  have hL : (dateL key date list ans).length = ans.length := by unfold dateL; simp; omega
  by_cases hij : i = j
  · subst hij
    rw [if_pos rfl, if_pos (by rw [upto_len _ _ _ _ h _ (by omega)]; exact hi)]
    unfold upto
    rw [List.getElem?_append_left (by simp; omega), List.getElem?_take, if_pos (by omega)]
    unfold dateL
    simp [List.getElem?_zipWith, hi, hl]
  · rw [if_neg hij]
    unfold upto
    by_cases hj : j < i
    · rw [List.getElem?_append_left (by simp; omega), List.getElem?_append_left (by simp; omega), List.getElem?_take, List.getElem?_take, if_pos hj, if_pos (by omega)]
    · rw [List.getElem?_append_right (by simp; omega), List.getElem?_append_right (by simp; omega), List.getElem?_drop, List.getElem?_drop]
      simp [hL]
      congr 1
      omega
theorem upto_same (key date : ByteArray) (list : List ByteArray) (ans : List S43) (h : list.length = ans.length) (i : Nat) (hi : i < ans.length) (hl : i < list.length) (he : dateF key date list[i] ans[i] = ans[i]) : upto key date list ans i = upto key date list ans (i + 1) := by
  rw [← upto_set key date list ans h i hi hl, he]
  have := upto_at key date list ans h i hi
  rw [List.getElem?_eq_some_iff] at this
  obtain ⟨h1, h2⟩ := this
  conv => rhs; rw [← h2]
  rw [List.set_getElem_self]

set_option maxHeartbeats 8000000 in
set_option maxRecDepth 100000 in
theorem q_date (g : Nat) (list : List ByteArray) (ans : List S43) (came : List Int) (begun : Bool) (S : Nat → Prop) (w : World) (hQ : Qs w S g list ans came begun) (date : ByteArray) (hlen : list.length = ans.length) (hlm : ans.length ≤ 100000) :
    Calls Try.prog 17 #[.pointer (some ⟨g, 0, none⟩), .string date] w fun e w' => e = .returned (.tuple #[]) ∧ Qs w' S g list (if begun = true ∧ came.length ≤ 20 then dateL (strOfNums came) date list ans else ans) came begun ∧ Upd S w w' := by
  have HQ := Aside0.mk hQ
  obtain ⟨ans2, hans2⟩ : ∃ q, (if begun = true ∧ came.length ≤ 20 then dateL (strOfNums came) date list ans else ans) = q := ⟨_, rfl⟩
  rw [hans2]
  have HA2 := Aside0.mk hans2
  clear hans2
  obtain ⟨hg, cs, vl, va, hb, h1, h2, h3, h4, h5, h6, hl, ha⟩ := hQ
  have hc23 : w.cell? ⟨g, 23, none⟩ = some (.bool begun) := (blk_cell hb 23).trans h6
  cases begun with
  | false =>
    clear hg hb h1 h2 h3 h4 h5 h6 hl ha
    go_enter Try.func17, Try.ntmps17
    go_wp2
    refine bodyPost_ret (results_none rfl _ _ _) rfl ?_
    have e := HA2.out
    rw [if_neg (by simp)] at e
    exact ⟨rfl, by rw [← e]; exact HQ.out, Upd.refl _ _⟩
  | true =>
  by_cases hn : came.length ≤ 20
  case neg =>
    have hc22 : w.cell? ⟨g, 22, none⟩ = some (.int .i64 21) := (blk_cell hb 22).trans (by rw [h5]; unfold qn; rw [if_neg hn])
    have HN := Aside0.mk hn
    clear hg hb h1 h2 h3 h4 h5 h6 hl ha hn
    go_enter Try.func17, Try.ntmps17
    go_wp2
    refine bodyPost_ret (results_none rfl _ _ _) rfl ?_
    have e := HA2.out
    rw [if_neg (fun h => HN.out h.2)] at e
    exact ⟨rfl, by rw [← e]; exact HQ.out, Upd.refl _ _⟩
  obtain ⟨d, hd⟩ : ∃ d, came.length = d := ⟨_, rfl⟩
  have hq : qn came = (d : Int) := by unfold qn; rw [if_pos hn, hd]
  rw [hq] at h5
  have hdi : (d : Int) ≤ 20 := by omega
  have hd0 : (0 : Int) ≤ (d : Int) := by omega
  have hdd : decide ((20 : Int) < (d : Int)) = false := decide_eq_false (by omega)
  have hc22 : w.cell? ⟨g, 22, none⟩ = some (.int .i64 (d : Int)) := (blk_cell hb 22).trans h5
  obtain ⟨Al, cl, rfl⟩ := Kd.R_slice hl
  have hc0 : w.cell? ⟨g, 0, none⟩ = some (.slice Al list.length cl) := (blk_cell hb 0).trans h2
  obtain ⟨A, c, rfl⟩ := Kd.R_slice ha
  obtain ⟨key, hkey⟩ : ∃ key, strOfNums came = key := ⟨_, rfl⟩
  have HB := Aside0.mk hb
  have HL := Aside0.mk hl
  have HA := Aside0.mk ha
  have HLEN := Aside0.mk hlen
  have HLM := Aside0.mk hlm
  have HKEY := Aside0.mk hkey
  have HCV := Aside0.mk (show ∀ W, W.heap[g]? = some (.cells cs 52 (0, 0)) → (convert 54 9 (.slice (some ⟨g, 2, none⟩) d 20)).run Try.prog W = .ok (.string key) W from fun W hW => by
    rw [← hkey]
    refine run_convert_bytes_arg W 54 5 Try.underlying54 Try.underlying5 g 2 d 20 came hd (fun i hi => ?_) 9 Try.underlying9
    rw [blk_cell hW (2 + i)]
    exact h4 i _ (by omega) (by rw [List.getD_eq_getElem?_getD, List.getElem?_eq_getElem (by omega)]; rfl))
  have K := Aside0.mk (show ∀ W ans2, W.heap[g]? = some (.cells cs 52 (0, 0)) → Upd (fun k => some k = (Value.slice A ans.length c).ownBlock) w W → k43.R 43 W 0 S (.slice A ans.length c) ans2 → Qs W S g list ans2 came true ∧ Upd S w W from fun W ans2 hW hu hr =>
    ⟨⟨hg, cs, _, _, hW, h1, h2, h3, h4, by rw [h5, hq], h6, row_updR hl ha (by decide) hu, hr⟩, hu.mono (fun k hk => row_at ha hk)⟩)
  have hu_ := Try.underlying43
  clear hg hb h1 h4 h6 hl ha hq hkey hlen hlm
  go_enter Try.func17, Try.ntmps17
  go_wp2
  go_loopg [23] list.length (fun gk v23 wr => ∃ i : Nat, v23 = .int .i64 (i : Int) ∧ Aside0 (i ≤ list.length ∧ list.length - i ≤ gk) ∧ Aside0 (wr.heap[g]? = some (.cells cs 52 (0, 0))) ∧ Aside0 (k43.R 43 wr 0 S (.slice A ans.length c) (upto key date list ans i)) ∧ Aside0 (Upd (fun k => some k = (Value.slice A ans.length c).ownBlock) w wr))
  case atStart => exact ⟨0, rfl, ⟨Nat.zero_le _, by omega⟩, ⟨HB.out⟩, ⟨by simpa [upto] using HA.out⟩, ⟨Upd.refl _ _⟩⟩
  case round =>
    obtain ⟨i, rfl, HI, BB, RA, HU⟩ := hrel
    (try clear hc23 hc22 hc0)
    have hi0 : (0 : Int) ≤ (i : Int) := by omega
    have him : (i : Int) ≤ 100000 := by have := HI.out.1; have := HLM.out; have := HLEN.out; omega
    by_cases hlt : i < list.length
    case neg =>
      have hltd : decide ((i : Int) < (list.length : Int)) = false := decide_eq_false (by omega)
      go_wp2
      go_end0
      have e : upto key date list ans i = dateL key date list ans := by
        unfold upto
        have := HLEN.out
        rw [List.drop_eq_nil_of_le (by omega), List.append_nil, List.take_of_length_le (by unfold dateL; simp; omega)]
      have h := RA.out
      rw [e] at h
      have e2 := HA2.out
      rw [if_pos (by simp [hn]), HKEY.out] at e2
      rw [← e2]
      exact ⟨rfl, K.out _ _ BB.out HU.out h⟩
    have hltd : decide ((i : Int) < (list.length : Int)) = true := decide_eq_true (by omega)
    have hlti : (i : Int) < (list.length : Int) := by omega
    have hla : i < ans.length := by have := HLEN.out; omega
    have hlai : (i : Int) < (ans.length : Int) := by omega
    have hlad : decide ((i : Int) < (ans.length : Int)) = true := decide_eq_true hlai
    have hLn := row_updR HL.out HA.out (by decide) HU.out
    obtain ⟨adl, e1, hx⟩ := Kd.at_string (Kd.R_reads' hLn).2.2 (i : Int) hi0 hlti
    cases e1
    obtain ⟨s, hs⟩ : ∃ s, list[i] = s := ⟨_, rfl⟩
    have hxl : wr.cell? (adl.add i) = some (.string s) := by
      rw [← hs]
      have : rdOf ByteArray.empty list (i : Int) = list[i] := by simp [rdOf, hlt]
      rw [← this]; simpa using hx
    obtain ⟨ad, e2, hcA⟩ : ∃ ad, A = some ad ∧ True := by
      obtain ⟨ad, _, h, _⟩ := Kd.C_get (Kd.R_reads' HA.out).2.2 z43 (i : Int) hi0 hlai
      exact ⟨ad, h, trivial⟩
    cases e2
    clear hcA
    obtain ⟨ga, rfl⟩ := Kd.R_head HA.out
    obtain ⟨cc, hcl, hM, hcc⟩ := Kd.R_getA RA.out z43 (i : Int) hi0 hlai
    obtain ⟨a, haa⟩ : ∃ a, ans[i] = a := ⟨_, rfl⟩
    have hup := upto_at key date list ans HLEN.out i hla
    have hgd : (upto key date list ans i).getD (i : Int).toNat z43 = a := by rw [← haa, Int.toNat_natCast, List.getD_eq_getElem?_getD, hup]; rfl
    rw [hgd] at hM
    have hcce := k43_openM hM
    have hca0 : wr.cell? ⟨ga, i * 2, none⟩ = some (.bool a.f0) := by
      have := hcc 0 (.bool a.f0) (by rw [hcce]; rfl)
      simp only [Int.toNat_natCast, Nat.add_zero, add_plain, Nat.zero_add] at this
      exact this
    have HUS := Aside0.mk (fun he => upto_same key date list ans HLEN.out i hla hlt he)
    have HUT := Aside0.mk (upto_set key date list ans HLEN.out i hla hlt)
    rw [hs, haa] at HUS HUT
    have hc0 := co BB 0 (.slice (some adl) list.length cl) h2
    have hc1 := co BB 1 (.slice (some ⟨ga, 0, none⟩) ans.length c) h3
    have hc22 := co BB 22 (.int .i64 (d : Int)) h5
    have HRA := RA
    have HCC := Aside0.mk hcc
    have HCE := Aside0.mk hcce
    have HCL := Aside0.mk hcl
    clear hs haa hup hgd hM hcc hcce hcl hx hLn
    obtain ⟨af, asx⟩ := a
    cases af with
    | true =>
      go_wp2
      go_quiet (fail)
      go_wp2
      go_roundg (gk - 1)
      case measure => have := HI.out.2; omega
      case rel => exact ⟨i + 1, by simp, ⟨by omega, by have := HI.out.2; omega⟩, ⟨BB.out⟩, ⟨by rw [← HUS.out (by unfold dateF; rw [if_neg (by simp)])]; exact Kd.R_drewN RA.out _⟩, ⟨HU.out.drewN _⟩⟩
    | false =>
      have hcv := fun m => HCV.out (wr.drewN m) BB.out
      by_cases hsk : s = key
      · subst hsk
        go_wp2
        go_quiet (fail)
        go_wp2_with (first
          | ((refine gate_store (t := 43) (p := 57) (v := .tmp 56) rfl ?_)
             refine Kd.R_store k43 (w0 := wr.drewN nq) 0 rfl rfl 43 (.tmp 57) (.tmp 56) rfl 43 (i : Int) 0 (upto s date list ans i) ⟨true, date⟩ (.agg #[.bool true, .string date]) [.bool true, .string date] cc S (fun _ => False) rfl ?ho rfl rfl (by kernel_rfl) (by intro q hq; simp at hq; rcases hq with rfl | rfl <;> rfl) (Kd.R_drewN HRA.out _) hi0 hlai HCL.out (fun j u h => by have h2 := HCC.out j u h; rw [add_plain] at h2; (try rw [Nat.zero_add] at h2); exact h2) (Nat.le_of_eq rfl) ?hm (fun _ h => h.elim) (Below.refl _ _) ?_
             (case ho => rfl); (case hm => rw [HCE.out]; exact k43_mkM _ 0 _ ⟨true, date⟩)
             intro w1 hr _ hgr
             have U1 := Aside0.mk ((HU.out.drewN nq).trans (Upd.grown (S := fun k => some k = (Value.slice (some ⟨ga, 0, none⟩) ans.length c).ownBlock) hgr (fun k hk => by rw [← hk]; rfl)) (fun k hk => .inl hk))
             have B1 := Aside0.mk (U1.out.blk HB.out (Kd.R_ne HA.out HB.out (by decide)))
             have R1 := Aside0.mk hr
             clear hr hgr))
        go_roundg (gk - 1)
        case measure => have := HI.out.2; omega
        case rel => exact ⟨i + 1, by simp, ⟨by omega, by have := HI.out.2; omega⟩, B1, ⟨by rw [← HUT.out]; unfold dateF; rw [if_pos ⟨rfl, rfl⟩]; simpa using R1.out⟩, U1⟩
      · have hse1 : (s.toList == key.toList) = false := beq_eq_false_iff_ne.2 (fun h => hsk (ByteArray.ext (Array.ext' (by rw [← Lib.toList_data s, ← Lib.toList_data key, h]))))
        have HSK := Aside0.mk hsk
        go_wp2
        go_quiet (fail)
        go_wp2
        go_roundg (gk - 1)
        case measure => have := HI.out.2; omega
        case rel => exact ⟨i + 1, by simp, ⟨by omega, by have := HI.out.2; omega⟩, ⟨BB.out⟩, ⟨by rw [← HUS.out (by unfold dateF; rw [if_neg (fun h => HSK.out h.2)])]; exact Kd.R_drewN RA.out _⟩, ⟨HU.out.drewN _⟩⟩

end Go.Proofs.Ytidcmkmlcmjekaa.PA
