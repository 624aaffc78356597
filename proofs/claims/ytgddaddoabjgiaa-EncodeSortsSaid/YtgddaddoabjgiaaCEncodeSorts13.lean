/- What the row of EncodeSorts stands on, made small by a program of this session (pack.py). -/
import Derived.Test.YtgddaddoabjgiaaCEncodeSorts2
import Derived.Test.YtgddaddoabjgiaaCEncodeSorts3
import Derived.Test.YtgddaddoabjgiaaCEncodeSorts5
import Derived.Test.YtgddaddoabjgiaaCEncodeSorts12
namespace Go.Proofs.Ytgddaddoabjgiaa.Srt
open RowKit YtgddaddoabjgiaaW.PrintWords YtgddaddoabjgiaaW.PrintLast YtgddaddoabjgiaaW.PrintMore Own Sl Bs Go.Proofs.Ytgddaddoabjgiaa.Ord Cm
set_option linter.unusedVariables false
set_option linter.unusedSimpArgs false
noncomputable def srt (l : List ByteArray) : List ByteArray := insF 0 1 (l.length - 1) l
theorem insF_len (a : Nat) : ∀ (m i : Nat) (xs : List ByteArray), (insF a i m xs).length = xs.length
 | 0, i, xs => rfl
 | m + 1, i, xs => by unfold insF; rw [insF_len a m, sift_len]
theorem srt_len (l : List ByteArray) : (srt l).length = l.length := insF_len _ _ _ _
theorem ins_none (A : Option Addr) (c : Nat) (w : World) :
 Calls Try.prog 91 #[.slice A 0 c, .int .i64 0, .int .i64 0, .func (.func 56) #[] #[]] w fun e w' => e = .returned (.tuple #[]) ∧ w = w' := by
 go_enter Try.func91, Try.ntmps91
 go_wp2
 refine wp_loop_rounds 1 ?_
 rw [rounds_succ]
 go_wp2
 go_end0
 exact ⟨rfl, rfl⟩
set_option maxHeartbeats 4000000 in
set_option maxRecDepth 100000 in
theorem stable_small (A : Option Addr) (c n : Nat) (xs : List ByteArray) (w : World) (S : Nat → Prop) (h : Hs w S [row Kd.string 9 (.slice A n c) xs]) (hn : n = xs.length) (hn2 : n < 20) (hs : ∀ s, s ∈ xs → s.size ≤ 1000000) :
 Calls Try.prog 78 #[.slice A n c, .int .i64 (n : Int), .func (.func 56) #[] #[]] w fun e w' => e = .returned (.tuple #[]) ∧ Sp w S [row Kd.string 9 (.slice A n c) (srt xs)] w' := by
 have hS := Sp.start h
 have HI : Calls Try.prog 91 #[.slice A n c, .int .i64 0, .int .i64 (n : Int), .func (.func 56) #[] #[]] w fun e w' => e = .returned (.tuple #[]) ∧ Sp w S [row Kd.string 9 (.slice A n c) (srt xs)] w' := by
  by_cases h0 : n = 0
  ·
   have hx : xs = [] := List.eq_nil_of_length_eq_zero zz7
   subst hx
   subst h0
   refine (ins_none A c w).mono fun e w' ⟨h1, h2⟩ => ⟨h1, ?_⟩
   subst h2
   exact hS
  ·
   have hR := hS.row 0
   obtain ⟨g, cap, hv, _⟩ := Kd.R_form hR zz7
   cases hv
   refine (ins_any g c xs.length 0 xs.length xs w S h rfl (Nat.zero_le _) (Nat.le_refl _) zz7 hs).mono fun e w' ⟨h1, h2⟩ => ⟨h1, ?_⟩
   unfold srt
   simpa using h2
 have HIA := Aside0.mk HI
 have hd1 : decide ((20 : Int) ≤ (n : Int)) = false := decide_eq_false zz7
 have hd2 : decide ((20 : Int) < (n : Int)) = false := decide_eq_false zz7
 clear h HI hS hn hs
 go_enter Try.func78, Try.ntmps78
 go_wp2
 refine wp_loop_rounds 1 ?_
 rw [rounds_succ]
 go_wp2_with (first
  | (go_at_call 91
     (with_reducible refine HIA.out.mono ?_)
     rintro e w3 ⟨rfl, hq⟩
     have HQ := Aside0.mk hq
     clear hq))
 refine wp_loop_rounds 1 ?_
 rw [rounds_succ]
 go_wp2
 go_end0
 exact ⟨rfl, HQ.out⟩
theorem clone_any (A : Option Addr) (c : Nat) (l : List ByteArray) (w : World) (S' : Nat → Prop) (hR : Kd.string.R 9 w 0 S' (.slice A l.length c) l) (hl : l.length ≤ 100000) :
 Calls Try.prog 54 #[.slice A l.length c] w fun e w' => ∃ A2 c2, e = .returned (.slice A2 l.length c2) ∧ Sp w None0 [row Kd.string 9 (.slice A2 l.length c2) l] w' := by
 have key : ∀ (v' : Value) (w' : World), w'.ownsRow w.heap.size 9 1 v' l.length (l.map Value.string) → Below w.heap.size w w' → ∃ A2 c2, v' = .slice A2 l.length c2 ∧ Sp w None0 [row Kd.string 9 (.slice A2 l.length c2) l] w' := by
  intro v' w' h1 h2
  have hR : Kd.string.R 9 w' 0 (fun k => w.heap.size ≤ k) v' l := by
   have h3 := Kd.R_of_own (enc := Value.string) (h1 := fun _ => rfl) (xs := l) (ok := fun k => w.heap.size ≤ k) h1 (fun k hk => own_base h1 k hk)
   exact Kd.R_lower h3 (Nat.zero_le _)
  obtain ⟨A2, c2, rfl⟩ := Kd.R_slice hR
  exact ⟨A2, c2, rfl, (Sp.nil (w := w) (S := None0)).more (Upd.of_below h2) hR⟩
 cases A with
 | none =>
   have h0 : l = [] := by
    cases l with
    | nil => rfl
    | cons x r => obtain ⟨ad, _, h, _⟩ := Kd.C_get (Kd.R_reads' hR).2.2 ByteArray.empty (0 : Int) zz7 zz43; cases h
   subst h0
   refine (Try.slices_Clone_string_nil 0 c w).mono fun e w' ⟨h1, h2⟩ => ?_
   subst h2
   exact ⟨none, 0, h1, (Sp.nil (w := _) (S := None0)).nilrow Kd.string 9⟩
 | some ad =>
   by_cases h0 : l = []
   ·
    subst h0
    refine (Try.slices_Clone_string_zero ad c w).mono fun e w' ⟨v', h1, h2, _, h3⟩ => ?_
    obtain ⟨A2, c2, rfl, h4⟩ := key v' w' h2 h3
    exact ⟨A2, c2, h1, h4⟩
   ·
    obtain ⟨g, rfl⟩ := Kd.R_head hR
    have hcs := (Kd.R_reads' hR).2.2
    refine (Try.slices_Clone_string g 0 l.length c l w (Nat.le_refl _) zz7 (fun j hj => ?_)).mono fun e w' ⟨v', h1, h2, _, h3⟩ => ?_
    ·
     rw [Nat.zero_add]; exact str_cell hcs hj rfl
    ·
     rw [List.take_length] at h2
     obtain ⟨A2, c2, rfl, h4⟩ := key v' w' h2 h3
     exact ⟨A2, c2, h1, h4⟩
set_option maxHeartbeats 4000000 in
set_option maxRecDepth 100000 in
theorem sort_any (A : Option Addr) (c : Nat) (l : List ByteArray) (w : World) (S' : Nat → Prop) (hR : Kd.string.R 9 w 0 S' (.slice A l.length c) l) (hl : l.length < 20) (hs : ∀ s, s ∈ l → s.size ≤ 1000000) :
 Calls Try.prog 39 #[.slice A l.length c] w fun e w' => ∃ A2 c2, e = .returned (.slice A2 l.length c2) ∧ Sp w None0 [row Kd.string 9 (.slice A2 l.length c2) (srt l)] w' := by
 have HC := Aside0.mk (clone_any A c l w S' hR zz7)
 have HS := Aside0.mk (fun (A2 : Option Addr) (c2 : Nat) (W : World) (S : Nat → Prop) h => stable_small A2 c2 l.length l W S h rfl hl hs)
 obtain ⟨n, hn⟩ : ∃ n, l.length = n := ⟨_, rfl⟩
 rw [hn] at HC HS ⊢
 clear hR hl hs hn
 have HF : ∀ A2 c2 W S, Hs W S [row Kd.string 9 (.slice A2 n c2) l] → Calls Try.prog 55 #[.slice A2 n c2, .func (.func 56) #[] #[]] W fun e w' => e = .returned (.tuple #[]) ∧ Sp W S [row Kd.string 9 (.slice A2 n c2) (srt l)] w' := by
  intro A2 c2 W S h
  have HH := Aside0.mk (HS.out A2 c2 W S h)
  clear h HC
  go_enter Try.func55, Try.ntmps55
  go_wp2_with (first
   | (go_at_call 78
      (with_reducible refine HH.out.mono ?_)
      rintro e w3 ⟨rfl, hq⟩
      have HQ := Aside0.mk hq
      clear hq))
  go_end0
  exact ⟨rfl, HQ.out⟩
 have HFA := Aside0.mk HF
 clear HF HS
 go_enter Try.func39, Try.ntmps39
 go_wp2_with (first
  | (go_at_call 54
     (with_reducible refine HC.out.mono ?_)
     rintro e w3 ⟨A2, c2, rfl, hS⟩)
  | (go_at_call 55
     (with_reducible refine (HFA.out A2 c2 _ (hS.ft 1) zz55).mono ?_)
     rintro e w4 ⟨rfl, hq⟩
     replace hS := hS.post1 hq))
 go_ret
 exact ⟨A2, c2, rfl, hS.lt⟩
end Go.Proofs.Ytgddaddoabjgiaa.Srt
namespace Go.Proofs.Ytgddaddoabjgiaa.At
open RowKit YtgddaddoabjgiaaW.PrintWords YtgddaddoabjgiaaW.PrintLast YtgddaddoabjgiaaW.PrintMore Own Sl Bs El Wr Oid Oidm Kn Cn
set_option linter.unusedVariables false
set_option linter.unusedSimpArgs false
def extsx (l : List S51) : ByteArray := if extsOk l then extsb l else ByteArray.empty
noncomputable def entOk (x : S34) : Bool := intOk (bytesOf x.f0) && datOk x.f1 && (decide (x.f2.length = 0) || extsOk x.f2)
noncomputable def entl (x : S34) : List ByteArray := elb 0 2 false x.f0 :: datx x.f1 :: (if x.f2.length = 0 then [] else [extsx x.f2])
noncomputable def entb (x : S34) : ByteArray := elb 0 16 true (cat (entl x))
noncomputable def entx (x : S34) : ByteArray := if entOk x then entb x else ByteArray.empty
def EntP (x : S34) : Prop := x.f0.size ≤ 1000 ∧ x.f1.size ≤ 1000 ∧ x.f2.length ≤ 100 ∧ ∀ y, y ∈ x.f2 → ExtP y
theorem extsb_size (l : List S51) (h : l.length ≤ 100) (hP : ∀ y, y ∈ l → ExtP y) : (extsb l).size ≤ 3010014 := by
 have h1 := cat_all extx 30100 l (fun x hx => extx_size x (hP x hx))
 have h2 : 30100 * l.length ≤ 30100 * 100 := Nat.mul_le_mul_left _ h
 have := (elb_size (c := 0) (t := 16) true (s := cat (l.map extx)) ⟨zz13, zz13, zz13, zz13⟩ zz7).2
 unfold extsb
 omega
theorem extsx_size (l : List S51) (h : l.length ≤ 100) (hP : ∀ y, y ∈ l → ExtP y) : (extsx l).size ≤ 3010014 := by
 unfold extsx
 split
 ·
  exact extsb_size l h hP
 ·
  simp
theorem entl_size (x : S34) (h : EntP x) : (cat (entl x)).size ≤ 3020000 := by
 have h1 := (elb_size (c := 0) (t := 2) false (s := x.f0) ⟨zz13, zz13, zz13, zz13⟩ (by have := h.1; omega)).2
 have h2 := datx_size x.f1
 have h3 := extsx_size x.f2 h.2.2.1 h.2.2.2
 have h4 := h.1
 rw [cat_count]
 unfold entl
 split
 ·
  simp only [List.map_cons, List.map_nil, List.sum_cons, List.sum_nil]; omega
 ·
  simp only [List.map_cons, List.map_nil, List.sum_cons, List.sum_nil]; omega
theorem entx_size (x : S34) (h : EntP x) : (entx x).size ≤ 3020014 := by
 have h1 := entl_size x h
 have := (elb_size (c := 0) (t := 16) true (s := cat (entl x)) ⟨zz13, zz13, zz13, zz13⟩ zz7).2
 unfold entx entb
 split
 ·
  omega
 ·
  simp
theorem end_ent (x : S34) (ps : List ByteArray) (hps : entl x = ps) (b : Bool) (hb : b = !entOk x) (g : Nat) (hP : EntP x) (W : World) (S : Nat → Prop) (h : Hs W S [wr g ps b]) :
 Calls Try.prog 33 #[.pointer (some ⟨g, 0, none⟩), .int .i64 16] W fun e w' => e = .returned (.tuple #[.string (entx x), .bool (entOk x)]) ∧ Sp W S [wr g ps b] w' := by
 subst hps hb
 refine (end_any (t := 16) g (entl x) (!entOk x) W S h zz13 (by have := entl_size x hP; omega) (by unfold entl; split <;> simp)).mono fun e w' ⟨h1, h2⟩ => ⟨h1.trans ?_, h2⟩
 unfold entx entb
 cases entOk x <;> rfl
set_option maxHeartbeats 4000000 in
set_option maxRecDepth 100000 in
theorem entry_any (A : Option Addr) (c : Nat) (x : S34) (w : World) (hC : k51.C w A x.f2.length x.f2) (hcap : x.f2.length ≤ c) (hA : EntP x) :
 Calls Try.prog 49 #[.agg #[.string x.f0, .string x.f1, .slice A x.f2.length c]] w fun e w' => e = .returned (.tuple #[.string (entx x), .bool (entOk x)]) ∧ Upd None0 w w' := by
 have hu := Try.underlying34
 have hu2 := Try.underlying62
 have hS := Sp.nil (w := w) (S := None0)
 have HX := Aside0.mk (fun (W : World) (h : Upd None0 w W) => exts_any A c x.f2 W (Kd.C_below hC h.below0) hcap hA.2.2.2 hA.2.2.1)
 have HL := Aside0.mk (fun W => leaf_any 2 x.f0 W (by have := hA.1; omega))
 rw [leafb_ok _ zz13] at HL
 have HI := Aside0.mk (fun W => integer_any x.f0 W (by have := hA.1; omega))
 have HD := Aside0.mk (fun W => date_any x.f1 W)
 have HEN := Aside0.mk (fun ps (hps : entl x = ps) b (hb : b = !entOk x) g => end_ent x ps hps b hb g hA)
 have heo : entOk x = (intOk (bytesOf x.f0) && datOk x.f1 && (decide (x.f2.length = 0) || extsOk x.f2)) := rfl
 have hel : entl x = elb 0 2 false x.f0 :: datx x.f1 :: (if x.f2.length = 0 then [] else [extsx x.f2]) := rfl
 have hxx : (if extsOk x.f2 then extsb x.f2 else ByteArray.empty) = extsx x.f2 := rfl
 rw [hxx] at HX
 obtain ⟨n, hn⟩ : ∃ n, x.f2.length = n := ⟨_, rfl⟩
 rw [hn] at HX heo hel ⊢
 obtain ⟨i1, hi1⟩ : ∃ y, intOk (bytesOf x.f0) = y := ⟨_, rfl⟩
 obtain ⟨d1, hd1⟩ : ∃ y, datOk x.f1 = y := ⟨_, rfl⟩
 obtain ⟨e1, he1⟩ : ∃ y, extsOk x.f2 = y := ⟨_, rfl⟩
 obtain ⟨x1, hx1⟩ : ∃ y, elb 0 2 false x.f0 = y := ⟨_, rfl⟩
 obtain ⟨x2, hx2⟩ : ∃ y, datx x.f1 = y := ⟨_, rfl⟩
 obtain ⟨x3, hx3⟩ : ∃ y, extsx x.f2 = y := ⟨_, rfl⟩
 obtain ⟨OK, hOK⟩ : ∃ y, entOk x = y := ⟨_, rfl⟩
 obtain ⟨Y, hY⟩ : ∃ y, entx x = y := ⟨_, rfl⟩
 rw [hi1] at HI heo
 rw [hd1] at HD heo
 rw [he1] at HX heo
 rw [hx1] at HL hel
 rw [hx2] at HD hel
 rw [hx3] at HX hel
 rw [hOK] at HEN heo ⊢
 rw [hY] at HEN ⊢
 have HEO := Aside0.mk heo
 have HEL := Aside0.mk hel
 obtain ⟨xs, xd, xe⟩ := x
 dsimp only at HI HL HD HX ⊢
 clear hC hcap hA heo hel hxx hn hi1 hd1 he1 hx1 hx2 hx3 hOK hY
 go_enter Try.func49, Try.ntmps49
 go_wp2_with (first
  | ((with_reducible refine gate_dst (N := 1) rfl ?_)
     refine sp_box hS rfl (N := 1) rfl #[.string xs, .string xd, .slice A n c] 34 zz20 ?_
     intro ga w1 hg1 hS)
  | ((with_reducible refine gate_dst (N := 4) rfl ?_)
     refine sp_box hS rfl (N := 4) rfl #[.slice none 0 0, .bool false] 62 zz20 ?_
     intro gw w2 hg2 hS
     replace hS := wr_new hS
     obtain ⟨k0, k1, k2⟩ := hS.cells3 1))
 go_region_held3 (fun w' => w'.cell? ⟨ga, 0, none⟩ = some (.string xs) ∧ w'.cell? ⟨ga, 1, none⟩ = some (.string xd) ∧ w'.cell? ⟨ga, 2, none⟩ = some (.slice A n c)) (first | go_keep | exact ⟨k0, k1, k2⟩) (first
  | (go_at_call 25
     (with_reducible refine (HL.out _).mono ?_)
     rintro e w5 ⟨rfl, hun⟩
     replace hS := hS.toN hun
     clear k0 k1 k2 hun
     obtain ⟨k0, k1, k2⟩ := hS.cells3 1)
  | (go_at_call 73
     (with_reducible refine (HI.out _).mono ?_)
     rintro e w6 ⟨rfl, hun⟩
     replace hS := hS.toN hun
     clear k0 k1 k2 hun
     obtain ⟨k0, k1, k2⟩ := hS.cells3 1)
  | (go_at_call 29
     (with_reducible refine (add_any gw _ _ x1 i1 _ (hS.ft 1) zz55 zz43).mono ?_)
     rintro e w7 ⟨rfl, hq⟩
     replace hS := hS.post1 hq
     rw [List.nil_append] at hS
     clear k0 k1 k2 hq
     obtain ⟨k0, k1, k2⟩ := hS.cells3 1))
 have hn0 : (0 : Int) ≤ (n : Int) := by omega
 go_upto_if 21 with (first
  | (go_at_call 31
     (with_reducible refine (HD.out _).mono ?_)
     rintro e w8 ⟨rfl, hun⟩
     replace hS := hS.toN hun
     clear k0 k1 k2 hun
     obtain ⟨k0, k1, k2⟩ := hS.cells3 1)
  | (go_at_call 29
     (with_reducible refine (add_any gw _ _ x2 d1 _ (hS.ft 1) zz55 zz43).mono ?_)
     rintro e w9 ⟨rfl, hq⟩
     replace hS := hS.post1 hq
     rw [List.cons_append, List.nil_append] at hS
     clear k0 k1 k2 hq
     obtain ⟨k0, k1, k2⟩ := hS.cells3 1))
 by_cases h0 : n = 0
 ·
  have hd : decide ((0 : Int) < (n : Int)) = false := decide_eq_false zz7
  have hd2 : decide (0 < n) = false := decide_eq_false zz7
  have HE2 := Aside0.mk (HEN.out [x1, x2] (by rw [HEL.out, if_pos h0]) ((false || !i1) || !d1) (by rw [HEO.out, decide_eq_true h0]; cases i1 <;> cases d1 <;> rfl))
  clear h0
  rw [hd2]
  go_wp2_with (first
   | (go_at_call 33
      (with_reducible refine (HE2.out gw _ (hS.ft 1) zz55).mono ?_)
      rintro e w11 ⟨rfl, hq⟩
      replace hS := hS.post1 hq))
  go_ret2
  exact ⟨rfl, hS.lt.u⟩
 ·
  have hd : decide ((0 : Int) < (n : Int)) = true := decide_eq_true zz7
  have hd2 : decide (0 < n) = true := decide_eq_true zz7
  have HE2 := Aside0.mk (HEN.out [x1, x2, x3] (by rw [HEL.out, if_neg h0]) (((false || !i1) || !d1) || !e1) (by rw [HEO.out, decide_eq_false h0]; cases i1 <;> cases d1 <;> cases e1 <;> rfl))
  clear h0
  rw [hd2]
  go_wp2_with (first
   | (go_at_call 16
      (with_reducible refine (HX.out _ hS.lt.u).mono ?_)
      rintro e w8 ⟨rfl, hun⟩
      replace hS := hS.toN hun
      clear k0 k1 k2 hun
      obtain ⟨k0, k1, k2⟩ := hS.cells3 1)
   | (go_at_call 29
      (with_reducible refine (add_any gw _ _ x3 e1 _ (hS.ft 1) zz55 zz43).mono ?_)
      rintro e w9 ⟨rfl, hq⟩
      replace hS := hS.post1 hq
      simp only [List.cons_append, List.nil_append] at hS
      clear k0 k1 k2 hq)
   | (go_at_call 33
      (with_reducible refine (HE2.out gw _ (hS.ft 1) zz55).mono ?_)
      rintro e w11 ⟨rfl, hq⟩
      replace hS := hS.post1 hq))
  go_ret2
  exact ⟨rfl, hS.lt.u⟩
end Go.Proofs.Ytgddaddoabjgiaa.At
namespace Go.Proofs.Ytgddaddoabjgiaa.At
open RowKit YtgddaddoabjgiaaW.PrintWords YtgddaddoabjgiaaW.PrintLast YtgddaddoabjgiaaW.PrintMore Own Sl Bs El Wr Oid Oidm Kn Cn
set_option linter.unusedVariables false
set_option linter.unusedSimpArgs false
noncomputable def entsOk (l : List S34) : Bool := l.all entOk
noncomputable def entsb (l : List S34) : ByteArray := elb 0 16 true (cat (l.map entx))
theorem cat_alls {α : Type} (f : α → ByteArray) (M : Nat) (l : List α) (h : ∀ x, x ∈ l → (f x).size ≤ M) : (cat (l.map f)).size ≤ M * l.length := by
 induction l with
 | nil => simp [cat]
 | cons x l ih =>
   have h1 := ih (fun y hy => h y (List.mem_cons_of_mem _ hy))
   have h2 := h x (List.mem_cons_self ..)
   rw [List.map_cons, List.length_cons, Nat.mul_add, Nat.mul_one]
   unfold cat
   rw [ByteArray.size_append]
   omega
set_option maxHeartbeats 4000000 in
set_option maxRecDepth 100000 in
theorem entries_any (A : Option Addr) (c : Nat) (l : List S34) (w : World) (hC : k34.C w A l.length l) (hcap : l.length ≤ c) (hA : ∀ x, x ∈ l → EntP x) (hn : l.length ≤ 20) :
 Calls Try.prog 32 #[.slice A l.length c] w fun e w' => e = .returned (.tuple #[.string (if entsOk l then entsb l else ByteArray.empty), .bool (entsOk l)]) ∧ Upd None0 w w' := by
 have hu := Try.underlying34
 have hu2 := Try.underlying62
 have hS := Sp.nil (w := w) (S := None0)
 have HC0 := Aside0.mk hC
 have HPX := Aside0.mk hA
 have HZ := Aside0.mk (show (cat (l.map entx)).size ≤ 100000000 by
  have := cat_alls entx 3020014 l (fun x hx => entx_size x (hA x hx))
  have h2 : 3020014 * l.length ≤ 3020014 * 20 := Nat.mul_le_mul_left _ hn
  omega)
 have HEE := Aside0.mk (show (l.any (fun x => !entOk x)) = !entsOk l from all_any_ entOk l)
 obtain ⟨n, hln⟩ : ∃ n, l.length = n := ⟨_, rfl⟩
 have HLN := Aside0.mk hln
 rw [hln] at hn HC0 ⊢
 have HN := Aside0.mk hn
 obtain ⟨Y, hY⟩ : ∃ y, (if entsOk l then entsb l else ByteArray.empty) = y := ⟨_, rfl⟩
 obtain ⟨OK, hOK⟩ : ∃ y, entsOk l = y := ⟨_, rfl⟩
 rw [hY, hOK]
 have HY := Aside0.mk hY
 have HOK := Aside0.mk hOK
 clear hC hcap hA hln hn hY hOK
 go_enter Try.func32, Try.ntmps32
 go_wp2_with (first
  | ((with_reducible refine gate_dst (N := 4) rfl ?_)
     refine sp_box hS rfl (N := 4) rfl #[.slice none 0 0, .bool false] 62 zz20 ?_
     intro gw w2 hg2 hS
     replace hS := wr_new hS))
 go_loopg [9] n (fun gk v9 wr => ∃ (i : Nat), v9 = .int .i64 (i : Int) ∧ Aside0 (i ≤ n ∧ n - i ≤ gk) ∧ Aside0 (Sp w None0 [Wr.wr gw ((l.take i).map entx) ((l.take i).any (fun x => !entOk x))] wr))
 case atStart => exact ⟨0, rfl, ⟨Nat.zero_le _, zz7⟩, ⟨hS⟩⟩
 case round =>
  clear hS
  obtain ⟨i, rfl, HI, HS⟩ := hrel
  have hS := HS.out
  clear HS
  by_cases hlt : i < n
  ·
   have hd : decide ((i : Int) < (n : Int)) = true := decide_eq_true zz7
   have hil : i < l.length := by rw [HLN.out]; exact hlt
   have hxi := rd_some l i z34 hil
   obtain ⟨ad, A0, c0, rfl, h0, h1, h2, hl0, hi0⟩ := at_T34 HC0.out (i : Int) zz7 zz7
   replace h0 := up_cell hS.u h0
   replace h1 := up_cell hS.u h1
   replace h2 := up_cell hS.u h2
   rw [Int.toNat_natCast] at h0 h1 h2
   obtain ⟨x, hx⟩ : ∃ x, rd_T34 l (i : Int) = x := ⟨_, rfl⟩
   have hxx : l[i]? = some x := hx ▸ hxi
   rw [hx] at h0 h1 h2 hl0 hi0
   have hxP := HPX.out x (List.mem_of_getElem? hxx)
   have HEN := Aside0.mk (fun (W : World) (h : Upd None0 w W) => entry_any A0 c0 x W (Kd.C_below hi0 h.below0) hl0 hxP)
   have HT1 := Aside0.mk (take_map_snoc entx l i x hxx)
   have HT2 := Aside0.mk (any_snoc entOk l i x hxx)
   have HLN2 := Aside0.mk (show ((l.take i).map entx).length ≤ 100000 by have := HN.out; have := List.length_take_le i l; rw [List.length_map]; omega)
   have hw1 : IntKind.i64.wrap ((i : Int) + 1) = ((i + 1 : Nat) : Int) := by have := HN.out; rw [IntKind.wrap_i64]; omega
   obtain ⟨m, hm⟩ : ∃ m, x.f2.length = m := ⟨_, rfl⟩
   rw [hm] at h2 HEN
   obtain ⟨ok, hok⟩ : ∃ b, entOk x = b := ⟨_, rfl⟩
   obtain ⟨y, hy⟩ : ∃ b, entx x = b := ⟨_, rfl⟩
   rw [hok] at HEN HT2
   rw [hy] at HEN HT1
   obtain ⟨P, hP⟩ : ∃ P, (l.take i).map entx = P := ⟨_, rfl⟩
   obtain ⟨B, hB⟩ : ∃ B, (l.take i).any (fun x => !entOk x) = B := ⟨_, rfl⟩
   rw [hP] at HT1 HLN2 hS
   rw [hB] at HT2 hS
   have hlti : (i : Int) < (n : Int) := by omega
   have hi00 : (0 : Int) ≤ (i : Int) := by omega
   obtain ⟨xs, xd, xe⟩ := x
   dsimp only at h0 h1 h2 HEN
   clear hil hxi hx hxx hxP hi0 hl0 hm hok hy hP hB
   go_wp2_with (first
    | ((with_reducible refine gate_dst (N := 6) rfl ?_)
       refine sp_box hS rfl (N := 6) rfl #[.string ⟨#[]⟩, .string ⟨#[]⟩, .slice none 0 0] 34 zz20 ?_
       intro gx w3 hg3 hS)
    | ((with_reducible refine gate_store (t := 34) (p := 6) (v := .tmp 12) rfl ?_)
       refine sp_row hS 0 rfl 34 (.tmp 6) (.tmp 12) rfl rfl gx #[.string xs, .string xd, .slice A0 m c0] rfl rfl 34 _ rfl zz4 rfl zz82 rfl ?_
       intro w4 hS
       obtain ⟨k0, k1, k2⟩ := hS.cells3 0)
    | (go_at_call 49
       (with_reducible refine (HEN.out _ hS.lt.u).mono ?_)
       rintro e w6 ⟨rfl, hun⟩
       replace hS := hS.toN hun
       clear k0 k1 k2 hun
       replace hS := Sp.swap hS)
    | (go_at_call 29
       (with_reducible refine (add_any gw P B y ok _ (hS.ft 1) zz55 HLN2.out).mono ?_)
       rintro e w12 ⟨rfl, hq⟩
       replace hS := hS.post1 hq
       rw [HT1.out, HT2.out] at hS
       clear hq))
   go_roundg (gk - 1)
   case measure => have := HI.out.2; omega
   case rel => exact ⟨i + 1, rfl, ⟨zz7, by have := HI.out.2; omega⟩, ⟨Sp.sel (l2 := [Wr.wr gw ((l.take (i + 1)).map entx) ((l.take (i + 1)).any (fun x => !entOk x))]) hS.lt [0]⟩⟩
  ·
   have hd : decide ((i : Int) < (n : Int)) = false := decide_eq_false zz7
   have hil : l.take i = l := List.take_of_length_le zz80
   rw [hil, HEE.out] at hS
   have hPL : (l.map entx).length ≤ 100000 := by have := HN.out; rw [List.length_map, HLN.out]; omega
   have HE2 := Aside0.mk (show ∀ (W : World) (S : Nat → Prop), Hs W S [Wr.wr gw (l.map entx) (!entsOk l)] → Calls Try.prog 33 #[.pointer (some ⟨gw, 0, none⟩), .int .i64 16] W fun e w' => e = .returned (.tuple #[.string Y, .bool OK]) ∧ Sp W S [Wr.wr gw (l.map entx) (!entsOk l)] w' from
    fun W S h => (end_any (t := 16) gw (l.map entx) (!entsOk l) W S h zz13 HZ.out hPL).mono fun e w' ⟨h1, h2⟩ => ⟨h1.trans (by rw [← HY.out, ← HOK.out]; unfold entsb; cases entsOk l <;> rfl), h2⟩)
   clear hil hPL
   go_wp2_with (first
    | (go_at_call 33
       (with_reducible refine (HE2.out _ _ zz55).mono ?_)
       rintro e w8 ⟨rfl, hq⟩
       replace hS := hS.post1 hq))
   go_ret2
   exact ⟨rfl, hS.lt.u⟩
end Go.Proofs.Ytgddaddoabjgiaa.At
namespace Go.Proofs.Ytgddaddoabjgiaa.At
open RowKit YtgddaddoabjgiaaW.PrintWords YtgddaddoabjgiaaW.PrintLast YtgddaddoabjgiaaW.PrintMore Own Sl Bs El Wr Oid Oidm Kn Cn Srt
set_option linter.unusedVariables false
set_option linter.unusedSimpArgs false
noncomputable def setb (l : List S47) : ByteArray := elb 0 17 true (cat (srt (l.map attrx)))
noncomputable def setx (l : List S47) : ByteArray := if l.all attrOk then setb l else ByteArray.empty
def setOk (l : List S47) : Bool := l.all attrOk && decide (0 < l.length)
def nameOk (l : List (List S47)) : Bool := l.all setOk
noncomputable def nameb (l : List (List S47)) : ByteArray := elb 0 16 true (cat (l.map setx))
def SetP (l : List S47) : Prop := l.length ≤ 15 ∧ ∀ a, a ∈ l → AttrP a
theorem swap_at {α : Type} : ∀ (l : List α) (i : Nat) (hi : i + 1 < l.length), ((l.set (i + 1) (l[i]'zz7)).set i (l[i + 1]'hi)).Perm l
 | [], i, hi => by simp at hi
 | [x], i, hi => by simp at hi
 | x :: y :: l, 0, hi => by simpa using List.Perm.swap x y l
 | x :: y :: l, i + 1, hi => by
   have := swap_at (y :: l) i (by simpa using hi)
   simpa using this
theorem sift_perm (a : Nat) : ∀ (j : Nat) (xs : List ByteArray), j < xs.length → (sift a j xs).Perm xs
 | 0, xs, _ => List.Perm.refl _
 | j + 1, xs, h => by
   unfold sift
   split
   ·
    have e1 : xs.getD j ByteArray.empty = xs[j]'zz7 := by rw [List.getD_eq_getElem?_getD, List.getElem?_eq_getElem]; rfl
    have e2 : xs.getD (j + 1) ByteArray.empty = xs[j + 1]'h := by rw [List.getD_eq_getElem?_getD, List.getElem?_eq_getElem]; rfl
    rw [e1, e2]
    exact (sift_perm a j _ zz73).trans (swap_at xs j h)
   ·
    exact List.Perm.refl _
theorem insF_perm (a : Nat) : ∀ (m i : Nat) (xs : List ByteArray), i + m ≤ xs.length → (insF a i m xs).Perm xs
 | 0, i, xs, _ => List.Perm.refl _
 | m + 1, i, xs, h => by
   unfold insF
   exact (insF_perm a m (i + 1) _ (by rw [sift_len]; omega)).trans (sift_perm a i xs zz7)
theorem srt_perm (l : List ByteArray) : (srt l).Perm l := by
 unfold srt
 cases l with
 | nil => exact List.Perm.refl _
 | cons x l => exact insF_perm 0 _ 1 _ zz73
theorem cat_perm {l m : List ByteArray} (h : l.Perm m) : (cat l).size = (cat m).size := by
 rw [cat_count, cat_count]
 exact (h.map ByteArray.size).sum_nat
theorem setl_size (l : List S47) (h : SetP l) : (cat (srt (l.map attrx))).size ≤ 500000 := by
 rw [cat_perm (srt_perm _)]
 have h1 := cat_alls attrx 30000 l (fun x hx => attrx_size x (h.2 x hx))
 have h2 : 30000 * l.length ≤ 30000 * 15 := Nat.mul_le_mul_left _ h.1
 omega
theorem setx_size (l : List S47) (h : SetP l) : (setx l).size ≤ 500100 := by
 have h1 := setl_size l h
 have := (elb_size (c := 0) (t := 17) true (s := cat (srt (l.map attrx))) ⟨zz13, zz13, zz13, zz13⟩ zz7).2
 unfold setx setb
 split
 ·
  omega
 ·
  simp
theorem end_set (l : List S47) (b : Bool) (hb : b = !l.all attrOk) (g : Nat) (hP : SetP l) (W : World) (S : Nat → Prop) (h : Hs W S [wr g (srt (l.map attrx)) b]) :
 Calls Try.prog 33 #[.pointer (some ⟨g, 0, none⟩), .int .i64 17] W fun e w' => e = .returned (.tuple #[.string (setx l), .bool (l.all attrOk)]) ∧ Sp W S [wr g (srt (l.map attrx)) b] w' := by
 subst hb
 refine (end_any (t := 17) g (srt (l.map attrx)) (!l.all attrOk) W S h zz13 (by have := setl_size l hP; omega) (by rw [srt_len, List.length_map]; have := hP.1; omega)).mono fun e w' ⟨h1, h2⟩ => ⟨h1.trans ?_, h2⟩
 unfold setx setb
 cases l.all attrOk <;> rfl
set_option maxHeartbeats 4000000 in
set_option maxRecDepth 100000 in
theorem name_any (A : Option Addr) (c : Nat) (l : List (List S47)) (w : World) (hC : (Kd.slice 47 k47).C w A l.length l) (hcap : l.length ≤ c) (hA : ∀ x, x ∈ l → SetP x) (hn : l.length ≤ 20) :
 Calls Try.prog 14 #[.slice A l.length c] w fun e w' => e = .returned (.tuple #[.string (if nameOk l then nameb l else ByteArray.empty), .bool (nameOk l)]) ∧ Upd None0 w w' := by
 have hu := Try.underlying47
 have hu2 := Try.underlying62
 have hS := Sp.nil (w := w) (S := None0)
 have HC0 := Aside0.mk hC
 have HPX := Aside0.mk hA
 have HZ := Aside0.mk (show (cat (l.map setx)).size ≤ 100000000 by
  have := cat_alls setx 500100 l (fun x hx => setx_size x (hA x hx))
  have h2 : 500100 * l.length ≤ 500100 * 20 := Nat.mul_le_mul_left _ hn
  omega)
 have HEE := Aside0.mk (show (l.any (fun x => !setOk x)) = !nameOk l from all_any_ setOk l)
 obtain ⟨n, hln⟩ : ∃ n, l.length = n := ⟨_, rfl⟩
 have HLN := Aside0.mk hln
 rw [hln] at hn HC0 ⊢
 have HN := Aside0.mk hn
 obtain ⟨Y, hY⟩ : ∃ y, (if nameOk l then nameb l else ByteArray.empty) = y := ⟨_, rfl⟩
 obtain ⟨OK, hOK⟩ : ∃ y, nameOk l = y := ⟨_, rfl⟩
 rw [hY, hOK]
 have HY := Aside0.mk hY
 have HOK := Aside0.mk hOK
 clear hC hcap hA hln hn hY hOK
 go_enter Try.func14, Try.ntmps14
 go_wp2_with (first
  | ((with_reducible refine gate_dst (N := 4) rfl ?_)
     refine sp_box hS rfl (N := 4) rfl #[.slice none 0 0, .bool false] 62 zz20 ?_
     intro gw w2 hg2 hS
     replace hS := wr_new hS))
 go_loopg [14] n (fun gk v14 wr => ∃ (i : Nat), v14 = .int .i64 (i : Int) ∧ Aside0 (i ≤ n ∧ n - i ≤ gk) ∧ Aside0 (Sp w None0 [Wr.wr gw ((l.take i).map setx) ((l.take i).any (fun x => !setOk x))] wr))
 case atStart => exact ⟨0, rfl, ⟨Nat.zero_le _, zz7⟩, ⟨hS⟩⟩
 case round =>
  clear hS
  obtain ⟨i, rfl, HI, HS⟩ := hrel
  have hS := HS.out
  clear HS
  by_cases hlt : i < n
  ·
   have hd : decide ((i : Int) < (n : Int)) = true := decide_eq_true zz7
   have hil : i < l.length := by rw [HLN.out]; exact hlt
   have hxi := rd_some l i ([] : List S47) hil
   obtain ⟨ad, A0, c0, rfl, h0, hl0, hi0⟩ := at_L7 HC0.out (i : Int) zz7 zz7
   replace h0 := up_cell hS.u h0
   rw [Int.toNat_natCast] at h0
   obtain ⟨x, hx⟩ : ∃ x, rd_L7 l (i : Int) = x := ⟨_, rfl⟩
   have hxx : l[i]? = some x := hx ▸ hxi
   rw [hx] at h0 hl0 hi0
   have hxP := HPX.out x (List.mem_of_getElem? hxx)
   have HT1 := Aside0.mk (take_map_snoc setx l i x hxx)
   have HT2 := Aside0.mk (any_snoc setOk l i x hxx)
   have HLN2 := Aside0.mk (show ((l.take i).map setx).length ≤ 100000 by have := HN.out; have := List.length_take_le i l; rw [List.length_map]; omega)
   have hw1 : IntKind.i64.wrap ((i : Int) + 1) = ((i + 1 : Nat) : Int) := by have := HN.out; rw [IntKind.wrap_i64]; omega
   obtain ⟨m, hm⟩ : ∃ m, x.length = m := ⟨_, rfl⟩
   have HM := Aside0.mk hm
   have HXC := Aside0.mk hi0
   have HXP := Aside0.mk hxP
   rw [hm] at h0 HXC
   have HEN := Aside0.mk (fun b (hb : b = !x.all attrOk) g => end_set x b hb g hxP)
   have HEE2 := Aside0.mk (show (x.any (fun y => !attrOk y)) = !x.all attrOk from all_any_ attrOk x)
   have hso : setOk x = (x.all attrOk && decide (0 < m)) := by unfold setOk; rw [hm]
   rw [hso] at HT2
   have hlti : (i : Int) < (n : Int) := by omega
   have hi00 : (0 : Int) ≤ (i : Int) := by omega
   have HSRT := Aside0.mk (fun A c W S' hR => sort_any A c (x.map attrx) W S' hR (by rw [List.length_map]; have := hxP.1; omega) (fun s hs => by obtain ⟨y, hy, rfl⟩ := List.mem_map.1 hs; have := attrx_size y (hxP.2 y hy); omega))
   obtain ⟨P, hP⟩ : ∃ P, (l.take i).map setx = P := ⟨_, rfl⟩
   obtain ⟨B, hB⟩ : ∃ B, (l.take i).any (fun x => !setOk x) = B := ⟨_, rfl⟩
   rw [hP] at HT1 HLN2 hS
   rw [hB] at HT2 hS
   have hmm : m ≤ 15 := by rw [← hm]; exact hxP.1
   clear hil hxi hx hxx hxP hi0 hl0 hm hso hP hB
   go_wp2_with (first
    | ((with_reducible refine gate_dst (N := 7) rfl ?_)
       refine sp_box hS rfl (N := 7) rfl #[.slice none 0 0, .bool false] 62 zz20 ?_
       intro gs w3 hg3 hS
       replace hS := wr_new hS))
   obtain ⟨go, hgo⟩ : ∃ g, g = gk := ⟨_, rfl⟩
   have HGO := Aside0.mk hgo
   clear hgo
   go_loopg [20] m (fun gk v20 wr => ∃ (j : Nat), v20 = .int .i64 (j : Int) ∧ Aside0 (j ≤ m ∧ m - j ≤ gk) ∧ Aside0 (Sp w None0 [Wr.wr gs ((x.take j).map attrx) ((x.take j).any (fun y => !attrOk y)), Wr.wr gw P B] wr))
   case atStart => exact ⟨0, rfl, ⟨Nat.zero_le _, zz7⟩, ⟨hS⟩⟩
   case round =>
    clear hS h0
    obtain ⟨j, rfl, HJ, HS⟩ := hrel
    have hS := HS.out
    clear HS
    by_cases hlj : j < m
    ·
     have hd : decide ((j : Int) < (m : Int)) = true := decide_eq_true zz7
     have hjl : j < x.length := by rw [HM.out]; exact hlj
     have hyj := rd_some x j z47 hjl
     obtain ⟨ae, A1, c1, rfl, h0, h1, h2, hl1, hi1⟩ := at_T47 HXC.out (j : Int) zz7 zz7
     replace h0 := up_cell hS.u h0
     replace h1 := up_cell hS.u h1
     replace h2 := up_cell hS.u h2
     rw [Int.toNat_natCast] at h0 h1 h2
     obtain ⟨y, hy⟩ : ∃ y, rd_T47 x (j : Int) = y := ⟨_, rfl⟩
     have hyy : x[j]? = some y := hy ▸ hyj
     rw [hy] at h0 h1 h2 hl1 hi1
     have hyP := HXP.out.2 y (List.mem_of_getElem? hyy)
     have HAT := Aside0.mk (fun (W : World) (h : Upd None0 w W) => attr_any A1 c1 y W (Kd.C_below hi1 h.below0) hl1 hyP)
     have HU1 := Aside0.mk (take_map_snoc attrx x j y hyy)
     have HU2 := Aside0.mk (any_snoc attrOk x j y hyy)
     have HLN3 := Aside0.mk (show ((x.take j).map attrx).length ≤ 100000 by have := List.length_take_le j x; rw [List.length_map]; omega)
     have hw2 : IntKind.i64.wrap ((j : Int) + 1) = ((j + 1 : Nat) : Int) := by rw [IntKind.wrap_i64]; omega
     have hltj : (j : Int) < (m : Int) := by omega
     have hj00 : (0 : Int) ≤ (j : Int) := by omega
     obtain ⟨q, hq⟩ : ∃ q, y.f0.length = q := ⟨_, rfl⟩
     rw [hq] at h0 HAT
     obtain ⟨ok, hok⟩ : ∃ b, attrOk y = b := ⟨_, rfl⟩
     obtain ⟨z, hz⟩ : ∃ b, attrx y = b := ⟨_, rfl⟩
     rw [hok] at HAT HU2
     rw [hz] at HAT HU1
     obtain ⟨P2, hP2⟩ : ∃ P, (x.take j).map attrx = P := ⟨_, rfl⟩
     obtain ⟨B2, hB2⟩ : ∃ B, (x.take j).any (fun x => !attrOk x) = B := ⟨_, rfl⟩
     rw [hP2] at HU1 HLN3 hS
     rw [hB2] at HU2 hS
     obtain ⟨yo, yt, ys⟩ := y
     dsimp only at h0 h1 h2 HAT
     clear hjl hyj hy hyy hyP hi1 hl1 hq hok hz hP2 hB2
     go_wp2_with (first
      | ((with_reducible refine gate_dst (N := 9) rfl ?_)
         refine sp_box hS rfl (N := 9) rfl #[.slice none 0 0, .int .i64 0, .string ⟨#[]⟩] 47 zz20 ?_
         intro gx w3 hg3 hS)
      | ((with_reducible refine gate_store (t := 47) (p := 9) (v := .tmp 23) rfl ?_)
         refine sp_row hS 0 rfl 47 (.tmp 9) (.tmp 23) rfl rfl gx #[.slice A1 q c1, .int .i64 yt, .string ys] rfl rfl 47 _ rfl zz4 rfl zz82 rfl ?_
         intro w4 hS
         obtain ⟨k0, k1, k2⟩ := hS.cells3 0)
      | (go_at_call 38
         (with_reducible refine (HAT.out _ hS.lt.u).mono ?_)
         rintro e w6 ⟨rfl, hun⟩
         replace hS := hS.toN hun
         clear k0 k1 k2 hun
         replace hS := Sp.swap hS)
      | (go_at_call 29
         (with_reducible refine (add_any gs P2 B2 z ok _ (hS.ft 1) zz55 HLN3.out).mono ?_)
         rintro e w12 ⟨rfl, hq⟩
         replace hS := hS.post1 hq
         rw [HU1.out, HU2.out] at hS
         clear hq))
     go_roundg (gk - 1)
     case measure => have := HJ.out.2; omega
     case rel => exact ⟨j + 1, rfl, ⟨zz7, by have := HJ.out.2; omega⟩, ⟨Sp.sel (l2 := [Wr.wr gs ((x.take (j + 1)).map attrx) ((x.take (j + 1)).any (fun y => !attrOk y)), Wr.wr gw P B]) hS.lt [0, 2]⟩⟩
    ·
     have hd : decide ((j : Int) < (m : Int)) = false := decide_eq_false zz7
     have hjl : x.take j = x := List.take_of_length_le (by have := HJ.out.1; rw [HM.out]; omega)
     rw [hjl, HEE2.out] at hS
     have hxl : (x.map attrx).length = m := by rw [List.length_map, HM.out]
     have hsl : (srt (x.map attrx)).length = m := by rw [srt_len]; exact hxl
     obtain ⟨A2, c2, hS⟩ := wr_out hS
     rw [wrL, hxl] at hS
     rw [hxl] at HSRT
     simp only [List.cons_append, List.nil_append] at hS
     obtain ⟨k0, k1⟩ := hS.cells2 0
     have HSL := Aside0.mk hsl
     obtain ⟨PS, hPS⟩ : ∃ p, srt (x.map attrx) = p := ⟨_, rfl⟩
     rw [hPS] at HSRT HSL HEN
     obtain ⟨PA, hPA⟩ : ∃ p, x.map attrx = p := ⟨_, rfl⟩
     rw [hPA] at HSRT hS
     obtain ⟨y, hy⟩ : ∃ b, setx x = b := ⟨_, rfl⟩
     rw [hy] at HEN HT1
     obtain ⟨so, hso⟩ : ∃ b, x.all attrOk = b := ⟨_, rfl⟩
     rw [hso] at HEN HT2 hS k1
     clear hjl hxl hsl hPS hPA hy hso
     have hm0 : (0 : Int) ≤ (m : Int) := by omega
     have HRR := Aside0.mk (hS.row 1)
     cases so
     all_goals
      go_wp2_with (first
       | (go_at_call 39
          (with_reducible refine (HSRT.out A2 c2 _ _ HRR.out).mono ?_)
          rintro e w6 ⟨A3, c3, rfl, hq⟩
          replace hS := hS.post0 (hq.mo (fun _ h => h.elim))
          clear k0 k1 hq)
       | ((with_reducible refine gate_store (t := 60) (p := 33) (v := .tmp 32) rfl ?_)
          refine sp_cell hS 1 rfl 60 (.tmp 33) (.tmp 32) rfl rfl gs 0 (.slice A3 m c3) rfl rfl 62 _ _ rfl zz4 zz43 rfl rfl rfl ?_
          intro w7 hS
          replace hS := Sp.sel (l2 := [blk gs #[.slice A3 m c3, .bool _] 62, row Kd.string 9 (.slice A3 m c3) PS, Wr.wr gw P B]) hS [1, 0, 3]
          rw [← HSL.out] at hS
          replace hS := wr_in (A := A3) (c := c3) hS)
       | (go_at_call 33
          (with_reducible refine (HEN.out _ rfl gs _ (hS.ft 1) zz55).mono ?_)
          rintro e w8 ⟨rfl, hq⟩
          replace hS := hS.post1 hq
          clear hq
          replace hS := Sp.swap hS)
       | (go_at_call 29
          (with_reducible refine (add_any gw P B y _ _ (hS.ft 1) zz55 HLN2.out).mono ?_)
          rintro e w12 ⟨rfl, hq⟩
          replace hS := hS.post1 hq
          clear hq))
      go_roundg (go - 1)
      case measure => have := HI.out.2; have := HGO.out; omega
      case rel =>
       have h2 := HT2.out
       simp only [Bool.false_and, Bool.true_and] at h2
       rw [HT1.out, h2] at hS
       exact ⟨i + 1, rfl, ⟨zz7, zz84⟩, ⟨Sp.sel (l2 := [Wr.wr gw ((l.take (i + 1)).map setx) ((l.take (i + 1)).any (fun y => !setOk y))]) hS.lt [0]⟩⟩
  ·
   have hd : decide ((i : Int) < (n : Int)) = false := decide_eq_false zz7
   have hil : l.take i = l := List.take_of_length_le zz80
   rw [hil, HEE.out] at hS
   have hPL : (l.map setx).length ≤ 100000 := by have := HN.out; rw [List.length_map, HLN.out]; omega
   have HE2 := Aside0.mk (show ∀ (W : World) (S : Nat → Prop), Hs W S [Wr.wr gw (l.map setx) (!nameOk l)] → Calls Try.prog 33 #[.pointer (some ⟨gw, 0, none⟩), .int .i64 16] W fun e w' => e = .returned (.tuple #[.string Y, .bool OK]) ∧ Sp W S [Wr.wr gw (l.map setx) (!nameOk l)] w' from
    fun W S h => (end_any (t := 16) gw (l.map setx) (!nameOk l) W S h zz13 HZ.out hPL).mono fun e w' ⟨h1, h2⟩ => ⟨h1.trans (by rw [← HY.out, ← HOK.out]; unfold nameb; cases nameOk l <;> rfl), h2⟩)
   clear hil hPL
   go_wp2_with (first
    | (go_at_call 33
       (with_reducible refine (HE2.out _ _ zz55).mono ?_)
       rintro e w8 ⟨rfl, hq⟩
       replace hS := hS.post1 hq))
   go_ret2
   exact ⟨rfl, hS.lt.u⟩
end Go.Proofs.Ytgddaddoabjgiaa.At
namespace Go.Proofs.Ytgddaddoabjgiaa.Cm
open RowKit YtgddaddoabjgiaaW.PrintWords YtgddaddoabjgiaaW.PrintLast YtgddaddoabjgiaaW.PrintMore Bs Go.Proofs.Ytgddaddoabjgiaa.Ord
set_option linter.unusedVariables false
set_option linter.unusedSimpArgs false
theorem bytesLess_turn : ∀ (x y : List UInt8), (Op.bytesLess x y || x == y) = !Op.bytesLess y x
 | [], [] => rfl
 | [], _ :: _ => rfl
 | _ :: _, [] => rfl
 | a :: x, b :: y => by
   have ih := bytesLess_turn x y
   simp only [Op.bytesLess, List.cons_beq_cons]
   rcases Nat.lt_trichotomy a.toNat b.toNat with h | h | h
   ·
    have h1 : a < b := UInt8.lt_iff_toNat_lt.2 h
    have h2 : ¬ b < a := fun hc => by have := UInt8.lt_iff_toNat_lt.1 hc; omega
    have h3 : ¬ b = a := fun hc => by subst hc; omega
    have h4 : ¬ a = b := fun hc => by subst hc; omega
    simp [h1, h2, h3, h4]
   ·
    obtain rfl := UInt8.toNat_inj.1 h
    simp [ih]
   ·
    have h1 : ¬ a < b := fun hc => by have := UInt8.lt_iff_toNat_lt.1 hc; omega
    have h2 : b < a := UInt8.lt_iff_toNat_lt.2 h
    have h4 : ¬ a = b := fun hc => by subst hc; omega
    simp [h1, h2, h4]
theorem bin_gtr (t : TypeId) (a b : ByteArray) : binOp .gtr t (.string a) (.string b) = pure (.bool (Op.bytesLess b.toList a.toList)) := by rw [← Bool.not_not (Op.bytesLess b.toList a.toList), ← bytesLess_turn]; simp [binOp, Op.stringOp]
attribute [local go_sem] bin_gtr
theorem bytesLess_map : ∀ (x y : List UInt8), Op.bytesLess x y = Ord.bl (x.map fun b => (b.toNat : Int)) (y.map fun b => (b.toNat : Int))
 | _, [] => by simp [Op.bytesLess, Ord.bl]
 | [], _ :: _ => rfl
 | a :: x, b :: y => by
   have h1 : decide (a < b) = decide ((a.toNat : Int) < (b.toNat : Int)) := by
    rw [decide_eq_decide, UInt8.lt_iff_toNat_lt]; omega
   have h2 : (a == b) = ((a.toNat : Int) == (b.toNat : Int)) := by
    rw [Bool.eq_iff_iff, beq_iff_eq, beq_iff_eq, ← UInt8.toNat_inj]; omega
   simp only [Op.bytesLess, List.map_cons, Ord.bl]
   rw [h1, h2, bytesLess_map x y]
theorem less_bl (s t : ByteArray) : Op.bytesLess s.toList t.toList = Ord.bl (bytesOf s) (bytesOf t) := by
 rw [bytesLess_map, Lib.toList_data, Lib.toList_data]; rfl
theorem sq_zero (s : ByteArray) : sq (s ++ (⟨#[0]⟩ : ByteArray)) = sq s := by
 unfold sq
 have e : bytesOf (s ++ (⟨#[0]⟩ : ByteArray)) = bytesOf s ++ [0] := by simp [bytesOf]
 rw [e, seq_zero]
theorem size_zero (s : ByteArray) : (s ++ (⟨#[0]⟩ : ByteArray)).size = s.size + 1 := by rw [ByteArray.size_append]; rfl
set_option maxRecDepth 100000 in
set_option maxHeartbeats 1000000 in
theorem ref_cmp_any (a b : ByteArray) (c : Int) (w : World) (ha : a.size ≤ 1000000) (hb : b.size ≤ 1000000) (hc : Cmp (sq a) (sq b) c) :
 Calls Try.prog 60 #[.string a, .string b] w fun e w' => e = .returned (.int .i64 c) ∧ w = w' := by
 have HC := Aside0.mk hc
 have HA := Aside0.mk ha
 have HB := Aside0.mk hb
 clear hc ha hb
 go_enter Try.func60, Try.ntmps60
 go_wp2
 go_loopg [0] b.size (fun gk v0 wr => ∃ x : ByteArray, v0 = .string x ∧ Aside0 (sq x = sq a ∧ x.size ≤ 1000000 ∧ b.size - x.size ≤ gk) ∧ w = wr)
 case atStart => exact ⟨a, rfl, ⟨rfl, HA.out, zz7⟩, rfl⟩
 case round =>
  obtain ⟨x, rfl, HX, rfl⟩ := hrel
  by_cases hlt : x.size < b.size
  ·
   have hd : decide (x.size < b.size) = true := decide_eq_true hlt
   have hz := size_zero x
   have hq : x.size + 1 ≤ 9223372036854775807 := by have := HB.out; omega
   go_wp2
   go_roundg (gk - 1)
   case measure => have := HX.out; omega
   case rel => exact ⟨_, rfl, ⟨(sq_zero x).trans HX.out.1, by rw [hz]; have := HB.out; omega, by rw [hz]; have := HX.out; omega⟩, rfl⟩
  have hd : decide (x.size < b.size) = false := decide_eq_false hlt
  go_wp2
  go_loopg [1] x.size (fun gk v1 wr => ∃ y : ByteArray, v1 = .string y ∧ Aside0 (sq y = sq b ∧ y.size ≤ x.size ∧ x.size - y.size ≤ gk) ∧ w = wr)
  case atStart => exact ⟨b, rfl, ⟨rfl, zz7, zz7⟩, rfl⟩
  case round =>
   clear hd
   obtain ⟨y, rfl, HY, rfl⟩ := hrel
   by_cases hly : y.size < x.size
   ·
    have hd : decide (y.size < x.size) = true := decide_eq_true hly
    have hz := size_zero y
    have hq : y.size + 1 ≤ 9223372036854775807 := by have := HX.out; omega
    go_wp2
    go_roundg (gk - 1)
    case measure => have := HY.out; omega
    case rel => exact ⟨_, rfl, ⟨(sq_zero y).trans HY.out.1, by rw [hz]; omega, by rw [hz]; have := HY.out; omega⟩, rfl⟩
   have hd : decide (y.size < x.size) = false := decide_eq_false hly
   have h1 := bl_cmp (bytesOf x) (bytesOf y) (by rw [bytesOf_length, bytesOf_length]; have := HY.out; omega)
   rw [← less_bl, ← less_bl] at h1
   obtain ⟨p, hp⟩ : ∃ p, Op.bytesLess x.toList y.toList = p := ⟨_, rfl⟩
   obtain ⟨q, hq⟩ : ∃ q, Op.bytesLess y.toList x.toList = q := ⟨_, rfl⟩
   rw [hp, hq] at h1
   have h2 : Cmp (sq a) (sq b) (if p = true then -1 else if q = true then 1 else 0) := by rw [← HX.out.1, ← HY.out.1]; exact h1
   have h3 := HC.out.uniq h2
   have H3 := Aside0.mk h3
   clear h1 h2 h3 hly
   cases p <;> cases q
   all_goals
    go_wp2
    go_ret
    exact ⟨by rw [H3.out]; rfl, rfl⟩
end Go.Proofs.Ytgddaddoabjgiaa.Cm
namespace Go.Proofs.Ytgddaddoabjgiaa.Srt
open RowKit YtgddaddoabjgiaaW.PrintWords YtgddaddoabjgiaaW.PrintLast YtgddaddoabjgiaaW.PrintMore Own Sl Bs Go.Proofs.Ytgddaddoabjgiaa.Ord Cm Wr
set_option linter.unusedVariables false
set_option linter.unusedSimpArgs false
noncomputable def back (x : ByteArray) (out : List ByteArray) : Nat → Nat
 | 0 => 0
 | k + 1 => if 0 < cm (out.getD k ByteArray.empty) x then back x out k else k + 1
theorem back_le (x : ByteArray) (out : List ByteArray) : ∀ k, back x out k ≤ k
 | 0 => Nat.le_refl _
 | k + 1 => by unfold back; split; exact Nat.le_succ_of_le (back_le x out k); exact Nat.le_refl _
noncomputable def rins (out : List ByteArray) (x : ByteArray) : List ByteArray := out.take (back x out out.length) ++ [x] ++ out.drop (back x out out.length)
theorem rins_len (out : List ByteArray) (x : ByteArray) : (rins out x).length = out.length + 1 := by
 have := back_le x out out.length
 unfold rins
 simp only [List.length_append, List.length_take, List.length_drop, List.length_singleton]
 omega
noncomputable def rsort (l : List ByteArray) : List ByteArray := l.foldl rins []
theorem rsort_snoc (l : List ByteArray) (i : Nat) (x : ByteArray) (h : l[i]? = some x) : rins (rsort (l.take i)) x = rsort (l.take (i + 1)) := by
 unfold rsort
 rw [List.take_add_one, h, Option.toList_some, List.foldl_append]; rfl
theorem fold_len (l : List ByteArray) : ∀ out : List ByteArray, (l.foldl rins out).length = out.length + l.length := by
 induction l with
 | nil => intro out; rfl
 | cons x l ih => intro out; rw [List.foldl_cons, ih, rins_len, List.length_cons]; omega
theorem rsort_len (l : List ByteArray) : (rsort l).length = l.length := by unfold rsort; rw [fold_len]; simp
theorem rins_mem {p : ByteArray → Prop} {out : List ByteArray} {x : ByteArray} (h : ∀ s, s ∈ out → p s) (hx : p x) : ∀ s, s ∈ rins out x → p s := by
 intro s hs
 unfold rins at hs
 simp only [List.mem_append, List.mem_singleton] at hs
 rcases hs with (h1 | h1) | h1
 ·
  exact h s (List.mem_of_mem_take h1)
 ·
  exact h1 ▸ hx
 ·
  exact h s (List.mem_of_mem_drop h1)
theorem rsort_mem {p : ByteArray → Prop} {l : List ByteArray} (h : ∀ s, s ∈ l → p s) : ∀ s, s ∈ rsort l → p s := by
 have : ∀ (l out : List ByteArray), (∀ s, s ∈ out → p s) → (∀ s, s ∈ l → p s) → ∀ s, s ∈ l.foldl rins out → p s := by
  intro l
  induction l with
  | nil => intro out h1 _; exact h1
  | cons x l ih => intro out h1 h2; exact ih _ (rins_mem h1 (h2 x (List.mem_cons_self ..))) (fun s hs => h2 s (List.mem_cons_of_mem _ hs))
 exact this l [] (fun s hs => by cases hs) h
theorem upc {w W : World} {a : Addr} {v : Value} (hu : Upd None0 w W) (h : w.cell? a = some v) : W.cell? a = some v := (hu.below0.cell (block_lt_of_cell h)).trans h
set_option maxHeartbeats 8000000 in
set_option maxRecDepth 100000 in
theorem rsort_any (A : Option Addr) (c : Nat) (l : List ByteArray) (w : World) (hC : Kd.string.C w A l.length l) (hcap : l.length ≤ c) (hl : l.length ≤ 1000) (hs : ∀ s, s ∈ l → s.size ≤ 1000000) :
 Calls Try.prog 41 #[.slice A l.length c] w fun e w' => ∃ A2 c2, e = .returned (.slice A2 l.length c2) ∧ Sp w None0 [row Kd.string 9 (.slice A2 l.length c2) (rsort l)] w' := by
 have hS := Sp.nil (w := w) (S := None0)
 have hu := Try.underlying60
 have HC0 := Aside0.mk hC
 have HSZ := Aside0.mk hs
 have HRL := Aside0.mk (show rsort (l.take l.length) = rsort l by rw [List.take_length])
 have HLEN := Aside0.mk (fun i => rsort_len (l.take i))
 obtain ⟨n, hln⟩ : ∃ n, l.length = n := ⟨_, rfl⟩
 have HLN := Aside0.mk hln
 rw [hln] at hl HC0 HRL ⊢
 have HN := Aside0.mk hl
 clear hC hcap hln hs hl
 go_enter Try.func41, Try.ntmps41
 go_wp2_with (first
  | ((with_reducible refine gate_dst (N := 7) rfl ?_)
     (go_loud (refine sp_lit Kd.string hS 9 rfl (N := 7) rfl ([] : List ByteArray) [] zz20 ⟨rfl, fun j p hj => by simp at hj⟩ zz13 ?_))
     (go_loud (intro A0 c0 w1 hS))))
 go_loopg [3, 4] n (fun gk v3 v4 wr => ∃ (i : Nat) (A1 : Option Addr) (c1 : Nat) (out : List ByteArray), v3 = .slice A1 i c1 ∧ v4 = .int .i64 (i : Int) ∧ Aside0 (i ≤ n ∧ n - i ≤ gk) ∧ Aside0 (rsort (l.take i) = out ∧ out.length = i ∧ ∀ s, s ∈ out → s.size ≤ 1000000) ∧ Aside0 (Sp w None0 [row Kd.string 9 (.slice A1 i c1) out] wr))
 case atStart => exact ⟨0, A0, c0, [], rfl, rfl, ⟨Nat.zero_le _, zz7⟩, ⟨rfl, rfl, fun s hs => by cases hs⟩, ⟨by exact hS⟩⟩
 case round =>
  clear hS
  obtain ⟨i, A1, c1, out, rfl, rfl, HI, HO, HS⟩ := hrel
  have hS := HS.out
  clear HS
  have hi00 : (0 : Int) ≤ (i : Int) := by omega
  by_cases hlt : i < n
  case neg =>
   have hd : decide (i < n) = false := decide_eq_false hlt
   have hin : i = n := by have := HI.out.1; omega
   have HOUT := Aside0.mk (show out = rsort l by rw [← HO.out.1, hin, HRL.out])
   clear hlt
   go_wp2
   go_ret
   obtain rfl := HOUT.out
   exact ⟨A1, c1, by rw [← hin]; rfl, by rw [← hin]; exact hS.lt⟩
  have hd : decide (i < n) = true := decide_eq_true hlt
  have hil : i < l.length := by rw [HLN.out]; exact hlt
  obtain ⟨x, hx⟩ : ∃ x, l.getD i ByteArray.empty = x := ⟨_, rfl⟩
  have hxx : l[i]? = some x := by rw [List.getElem?_eq_getElem hil, ← hx, List.getD_eq_getElem?_getD, List.getElem?_eq_getElem hil]; rfl
  obtain ⟨ad, rfl⟩ : ∃ ad, A = some ad := by
   obtain ⟨ad, _, e, _⟩ := Kd.C_get HC0.out ByteArray.empty (i : Int) zz7 zz7
   exact ⟨ad, e⟩
  have HCX := Aside0.mk (Wr.str_cell HC0.out hxx)
  have hxs : x.size ≤ 1000000 := HSZ.out x (List.mem_of_getElem? hxx)
  have HXS := Aside0.mk hxs
  have HSN := Aside0.mk (rsort_snoc l i x hxx)
  have hlti : (i : Int) < (n : Int) := by omega
  have hin : (i : Int) ≤ 1000 := by have := HN.out; omega
  obtain ⟨go, hgo⟩ : ∃ g, g = gk := ⟨_, rfl⟩
  have HGO := Aside0.mk hgo
  have HLT := Aside0.mk hlt
  clear hgo hil hx hxx hxs hlt
  go_wp2
  go_loopg [5] (i + 1) (fun gk v5 wr => ∃ (k : Nat), v5 = .int .i64 (k : Int) ∧ Aside0 (k ≤ i ∧ k < gk) ∧ Aside0 (back x out i = back x out k) ∧ Aside0 (Sp w None0 [row Kd.string 9 (.slice A1 i c1) out] wr))
  case atStart => exact ⟨i, rfl, ⟨Nat.le_refl _, zz7⟩, ⟨rfl⟩, ⟨hS⟩⟩
  case round =>
   clear hS hd
   obtain ⟨k, rfl, HK, HB, HS⟩ := hrel
   have hS := HS.out
   clear HS
   have hk0 : (0 : Int) ≤ (k : Int) := by omega
   by_cases hkz : k = 0
   ·
    subst hkz
    have HKP := Aside0.mk (show back x out i = 0 from HB.out)
    obtain ⟨Z, hZ⟩ : ∃ z, out.drop 0 = z := ⟨_, rfl⟩
    have HZ := Aside0.mk hZ
    have HM := Aside0.mk (show i ≤ 1000 by omega)
    have HZL := Aside0.mk (show Z.length ≤ 1000 by rw [← hZ, List.length_drop]; have := HO.out.2.1; omega)
    have CT : ∀ {W : World} {l2 : List Ast} {v : Value}, Sp w None0 (row Kd.string 9 v [] :: row Kd.string 9 (.slice A1 i c1) out :: l2) W → Kd.string.C W A1 i Z := fun h => by rw [← hZ, List.drop_zero]; exact h.reads 1
    clear hZ
    go_wp2
    go_quiet (fail)
    go_wp2_with (first
     | ((with_reducible refine gate_dst (N := 33) rfl ?_)
        (go_loud (refine sp_lit Kd.string hS 9 rfl (N := 33) rfl ([] : List ByteArray) [] zz20 ⟨rfl, fun j p hj => by simp at hj⟩ zz13 ?_))
        (go_loud (intro A2 c2 w1 hS))
        (go_loud (have HCT := Aside0.mk (CT hS))))
     | ((with_reducible refine gate_builtin (b := .append) (xs := #[.tmp 33, .tmp 36]) rfl ?_); at_builtin
        (go_loud (refine sp_apps Kd.string hS 0 rfl (.tmp 33) (.tmp 36) 60 9 (.string ByteArray.empty) 16 rfl Try.underlying60 infoS rfl zz13 zz13 (.slice A2 0 c2) [] Z _ _ _ rfl rfl (by exact rfl) (by exact HCT.out) (fun _ _ h => h) (by have := HM.out; simp only [List.length_nil]; omega) Z rfl _ (fun _ _ => rfl) ?_))
        (go_loud (clear HCT))
        (go_loud (intro A3 c3 w3 hS))))
    have hS2 := Sp.turn hS 1 (row Kd.string 9 (.slice A1 i c1) out) (row Kd.string 9 (.slice A1 0 c1) (out.take 0)) rfl (fun T h => Kd.R_take h (by have := HO.out.2.1; have := HK.out.1; omega))
    replace hS2 : Sp w None0 [row Kd.string 9 (.slice A3 Z.length c3) Z, row Kd.string 9 (.slice A1 0 c1) (out.take 0)] _ := hS2
    have hRC := hS.row 1
    obtain ⟨XS, hXS⟩ : ∃ z, out.take 0 ++ [x] = z := ⟨_, rfl⟩
    have HXS := Aside0.mk hXS
    have HXL := Aside0.mk (show XS.length = 0 + 1 by rw [← hXS, List.length_append, List.length_take, HO.out.2.1]; have := HK.out.1; simp <;> omega)
    clear hXS
    refine wp_region_held_drew (S := fun W => W.cell? (ad.add i) = some (.string x)) zz4 (upc (hS2.lt (W := _)).u HCX.out) (fun hHeld => ?_)
    refine tk 0 (v := ?_) rfl zz4 zz4 zz4 (fun _ _ _ h => h) zz37 (Or.inl ⟨zz54, ?_⟩) ?_
    rotate_left 1
    ·
     (intro w hSw; (try dsimp only at hSw); go_simp; try with_reducible rfl)
    simp only [Act.put, List.setIfInBounds_toArray, List.set_cons_zero, List.set_cons_succ]
    refine tk 1 (v := ?_) rfl zz4 zz4 zz4 (fun _ _ _ h => h) zz37 (Or.inl ⟨zz54, ?_⟩) ?_
    rotate_left 1
    ·
     (intro w hSw; (try dsimp only at hSw); go_simp; try with_reducible rfl)
    simp only [Act.put, List.setIfInBounds_toArray, List.set_cons_zero, List.set_cons_succ]
    refine tk 2 (v := ?_) rfl zz4 zz4 zz4 (fun _ _ _ h => h) zz37 (Or.inl ⟨zz54, ?_⟩) ?_
    rotate_left 1
    ·
     (intro w hSw; (try dsimp only at hSw); go_simp; try with_reducible rfl)
    simp only [Act.put, List.setIfInBounds_toArray, List.set_cons_zero, List.set_cons_succ]
    refine tk 3 (v := ?_) rfl zz4 zz4 zz4 (fun _ _ _ h => h) zz37 (Or.inl ⟨zz54, ?_⟩) ?_
    rotate_left 1
    ·
     (intro w hSw; (try dsimp only at hSw); go_simp; try with_reducible rfl)
    simp only [Act.put, List.setIfInBounds_toArray, List.set_cons_zero, List.set_cons_succ]
    refine tk 4 (v := ?_) rfl zz4 zz4 zz4 (fun _ _ _ h => h) zz37 (Or.inl ⟨zz54, ?_⟩) ?_
    rotate_left 1
    ·
     (intro w hSw; (try dsimp only at hSw); go_simp; try with_reducible rfl)
    simp only [Act.put, List.setIfInBounds_toArray, List.set_cons_zero, List.set_cons_succ]
    refine tk 5 (v := ?_) rfl zz4 zz4 zz4 (fun _ _ _ h => h) zz37 (Or.inl ⟨zz54, ?_⟩) ?_
    rotate_left 1
    ·
     (intro w hSw; (try dsimp only at hSw); go_simp; try with_reducible rfl)
    simp only [Act.put, List.setIfInBounds_toArray, List.set_cons_zero, List.set_cons_succ]
    refine tk 6 (v := ?_) rfl zz4 zz4 zz4 (fun _ _ _ h => h) zz37 (Or.inl ⟨zz54, ?_⟩) ?_
    rotate_left 1
    ·
     (intro w hSw; (try dsimp only at hSw); go_simp; try with_reducible rfl)
    simp only [Act.put, List.setIfInBounds_toArray, List.set_cons_zero, List.set_cons_succ]
    refine tk 9 (v := ?_) rfl zz4 zz4 zz4 (fun _ _ _ h => h) zz37 (Or.inl ⟨zz54, ?_⟩) ?_
    rotate_left 1
    ·
     (intro w hSw; (try dsimp only at hSw); go_simp; try with_reducible rfl)
    simp only [Act.put, List.setIfInBounds_toArray, List.set_cons_zero, List.set_cons_succ]
    refine alone 7 rfl zz4 zz54 (fun K hK => ?_)
    go_simp
    refine hK.out _ _ (upc (hS2.lt (W := _)).u HCX.out) (fun hHeld => ?_)
    clear hK K
    try simp only [Act.put, List.setIfInBounds_toArray, List.set_cons_zero, List.set_cons_succ]
    refine aloneL 8 rfl zz4 (fun K hK => ?_)
    refine sp_app (W := w3.drew) Kd.string hS2 1 rfl (.tmp 40) (.tmp 45) 60 9 (.string ByteArray.empty) 16 rfl Try.underlying60 infoS rfl zz13 zz13 (.slice A1 0 c1) (out.take 0) x [.string x] rfl rfl (by exact rfl) rfl (by have := HXS.out; have := HXL.out; have := HK.out.1; rw [List.length_take]; omega) XS HXS.out _ (fun _ _ => rfl) ?_
    intro A4 c4 w4 hS3
    refine list_K ?_
    refine hK.out _ _ (upc (hS3.lt (W := _)).u HCX.out) (fun hHeld => ?_)
    clear hK K hS2
    try simp only [Act.put, List.setIfInBounds_toArray, List.set_cons_zero, List.set_cons_succ]
    refine aloneL 10 rfl zz4 (fun K hK => ?_)
    refine sp_apps Kd.string hS3 1 rfl (.tmp 46) (.tmp 47) 60 9 (.string ByteArray.empty) 16 rfl Try.underlying60 infoS rfl zz13 zz13 (.slice A4 XS.length c4) XS Z A3 Z.length c3 rfl rfl (by exact rfl) (by exact hS3.reads 0) (fun _ _ h => h) (by have := HXL.out; have := HZL.out; have := HK.out.1; omega) (XS ++ Z) rfl _ (fun _ _ => rfl) ?_
    intro A5 c5 w5 hS4
    refine list_K ?_
    refine hK.out _ _ (upc (hS4.lt (W := _)).u HCX.out) (fun hHeld => ?_)
    clear hK K hS3
    try simp only [Act.put, List.setIfInBounds_toArray, List.set_cons_zero, List.set_cons_succ]
    refine tk 11 (v := ?_) rfl zz4 zz4 zz4 (fun _ _ _ h => h) zz37 (Or.inl ⟨zz54, ?_⟩) ?_
    rotate_left 1
    ·
     (intro w hSw; (try dsimp only at hSw); go_simp; try with_reducible rfl)
    simp only [Act.put, List.setIfInBounds_toArray, List.set_cons_zero, List.set_cons_succ]
    refine wpAnyH_done zz4 ?_ _
    go_wp2
    go_roundg (go - 1)
    case measure => have := HI.out.2; have := HGO.out; have := HLT.out; omega
    case rel =>
     have hfin : rsort (l.take (i + 1)) = XS ++ Z := by
      rw [← HSN.out, HO.out.1]
      unfold rins
      rw [HO.out.2.1, HKP.out, HXS.out, HZ.out]
     have hlen : (XS ++ Z).length = i + 1 := by rw [← hfin, HLEN.out, List.length_take, HLN.out]; have := HLT.out; omega
     exact ⟨i + 1, A5, c5, XS ++ Z, by rw [← hlen, List.length_append], rfl, ⟨by have := HLT.out; omega, zz84⟩, ⟨hfin, hlen, by rw [← hfin]; exact rsort_mem (fun s hs => HSZ.out s (List.mem_of_mem_take hs))⟩, ⟨zz81⟩⟩
   ·
    obtain ⟨p, rfl⟩ : ∃ p, k = p + 1 := ⟨k - 1, zz7⟩
    obtain ⟨q, hq⟩ : ∃ q, p + 1 = q := ⟨_, rfl⟩
    have hpl : p < out.length := by have := HO.out.2.1; have := HK.out.1; omega
    obtain ⟨y, hy⟩ : ∃ y, out.getD p ByteArray.empty = y := ⟨_, rfl⟩
    have hys : y.size ≤ 1000000 := by rw [← hy]; exact getD_mem_or out _ _ HO.out.2.2 zz13
    obtain ⟨g, rfl⟩ : ∃ g, A1 = some ⟨g, 0, none⟩ := by
     obtain ⟨g, cap, hv, _⟩ := Kd.R_form (hS.row 0) zz7
     cases hv
     exact ⟨g, rfl⟩
    have hcy := Srt.str_cell (hS.reads 0) hpl hy
    have hcx := upc hS.u HCX.out
    have hic : i ≤ c1 := (Kd.R_reads' (hS.row 0)).2.1 |> fun h => by have := HO.out.2.1; omega
    obtain ⟨r, hr⟩ : ∃ r, cm y x = r := ⟨_, rfl⟩
    have HCL := Aside0.mk (fun W => ref_cmp_any y x (cm y x) W hys HXS.out (cm_spec y x))
    rw [hr] at HCL
    have HB2 := Aside0.mk (show if 0 < r then back x out i = back x out p else back x out i = q by
     have h1 := HB.out
     rw [back, hy, hr] at h1
     split
     ·
      rename_i h; rw [if_pos h] at h1; exact h1
     ·
      rename_i h; rw [if_neg h] at h1; rw [h1, hq])
    have HPQ := Aside0.mk hq
    rw [hq] at HK hk0 ⊢
    have hqn : (q : Int) ≤ (i : Int) := by have := HK.out.1; omega
    have hpn : (p : Int) < (i : Int) := by omega
    have hqp : (q : Int) - 1 = (p : Int) := by omega
    have hqw : IntKind.i64.wrap (p : Int) = (p : Int) := by rw [IntKind.wrap_i64]; omega
    have hq0 : (0 : Int) < (q : Int) := by omega
    have hp0 : (0 : Int) ≤ (p : Int) := by omega
    have hq1 : 0 < q := by omega
    have hqi : q ≤ i := by omega
    have hqc : q ≤ c1 := by omega
    clear hq hy hys hr HB hkz hpl
    by_cases hr0 : 0 < r
    ·
     have hd2 : decide (0 < r) = true := decide_eq_true hr0
     have HB3 := Aside0.mk (show back x out i = back x out p by have := HB2.out; rw [if_pos hr0] at this; exact this)
     clear hr0
     go_wp2
     go_quiet ((go_at_call 60; exact qleft (HCL.out _)))
     go_wp2
     go_roundg (gk - 1)
     case measure => have := HK.out; omega
     case rel => exact ⟨p, rfl, ⟨by have := HK.out; have := HPQ.out; omega, by have := HK.out; have := HPQ.out; omega⟩, HB3, ⟨hS.lt⟩⟩
    ·
     have hd2 : decide (0 < r) = false := decide_eq_false hr0
     have HKP := Aside0.mk (show back x out i = q by have := HB2.out; rw [if_neg hr0] at this; exact this)
     clear hr0
     obtain ⟨Z, hZ⟩ : ∃ z, out.drop q = z := ⟨_, rfl⟩
     have HZ := Aside0.mk hZ
     have HM := Aside0.mk (show i ≤ 1000 by omega)
     have HZL := Aside0.mk (show Z.length ≤ 1000 by rw [← hZ, List.length_drop]; have := HO.out.2.1; omega)
     have HZE : Z.length = i - q := by rw [← hZ, List.length_drop, HO.out.2.1]
     by_cases hcq : c1 = q
     ·
      subst hcq
      obtain rfl : i = c1 := by omega
      have hz0 : Z = [] := List.eq_nil_of_length_eq_zero zz7
      have CT : ∀ {W : World} {l2 : List Ast} {v : Value}, Sp w None0 (row Kd.string 9 v [] :: row Kd.string 9 (.slice (some ⟨g, 0, none⟩) i i) out :: l2) W → Kd.string.C W (some ⟨g, 0, none⟩) 0 Z := fun h => by rw [hz0]; exact ⟨rfl, zz13, fun h => absurd h zz13⟩
      clear hZ HZE hz0
      go_wp2
      go_quiet ((go_at_call 60; exact qleft (HCL.out _)))
      clear hcx hcy
      replace hS : Sp w None0 _ (wr.drewN nq) := hS.lt
      generalize wr.drewN nq = W1 at hS ⊢
      go_wp2_with (first
       | ((with_reducible refine gate_dst (N := 33) rfl ?_)
          (go_loud (refine sp_lit Kd.string hS 9 rfl (N := 33) rfl ([] : List ByteArray) [] zz20 ⟨rfl, fun j p hj => by simp at hj⟩ zz13 ?_))
          (go_loud (intro A2 c2 w1 hS))
          (go_loud (have HCT := Aside0.mk (CT hS))))
       | ((with_reducible refine gate_builtin (b := .append) (xs := #[.tmp 33, .tmp 36]) rfl ?_); at_builtin
          (go_loud (refine sp_apps Kd.string hS 0 rfl (.tmp 33) (.tmp 36) 60 9 (.string ByteArray.empty) 16 rfl Try.underlying60 infoS rfl zz13 zz13 (.slice A2 0 c2) [] Z _ _ _ rfl rfl (by exact rfl) (by exact HCT.out) (fun _ _ h => h) (by have := HM.out; simp only [List.length_nil]; omega) Z rfl _ (fun _ _ => rfl) ?_))
          (go_loud (clear HCT))
          (go_loud (intro A3 c3 w3 hS))))
      have hS2 := Sp.turn hS 1 (row Kd.string 9 (.slice (some ⟨g, 0, none⟩) i i) out) (row Kd.string 9 (.slice (some ⟨g, 0, none⟩) i i) (out.take i)) rfl (fun T h => Kd.R_take h (by have := HO.out.2.1; have := HK.out.1; omega))
      replace hS2 : Sp w None0 [row Kd.string 9 (.slice A3 Z.length c3) Z, row Kd.string 9 (.slice (some ⟨g, 0, none⟩) i i) (out.take i)] _ := hS2
      have hRC := hS.row 1
      obtain ⟨XS, hXS⟩ : ∃ z, out.take i ++ [x] = z := ⟨_, rfl⟩
      have HXS := Aside0.mk hXS
      have HXL := Aside0.mk (show XS.length = i + 1 by rw [← hXS, List.length_append, List.length_take, HO.out.2.1]; have := HK.out.1; simp <;> omega)
      clear hXS
      refine wp_region_held_drew (S := fun W => W.cell? (ad.add i) = some (.string x)) zz4 (upc (hS2.lt (W := _)).u HCX.out) (fun hHeld => ?_)
      refine tk 0 (v := ?_) rfl zz4 zz4 zz4 (fun _ _ _ h => h) zz37 (Or.inl ⟨zz54, ?_⟩) ?_
      rotate_left 1
      ·
       (intro w hSw; (try dsimp only at hSw); go_simp; try with_reducible rfl)
      simp only [Act.put, List.setIfInBounds_toArray, List.set_cons_zero, List.set_cons_succ]
      refine tk 1 (v := ?_) rfl zz4 zz4 zz4 (fun _ _ _ h => h) zz37 (Or.inl ⟨zz54, ?_⟩) ?_
      rotate_left 1
      ·
       (intro w hSw; (try dsimp only at hSw); go_simp; try with_reducible rfl)
      simp only [Act.put, List.setIfInBounds_toArray, List.set_cons_zero, List.set_cons_succ]
      refine tk 2 (v := ?_) rfl zz4 zz4 zz4 (fun _ _ _ h => h) zz37 (Or.inl ⟨zz54, ?_⟩) ?_
      rotate_left 1
      ·
       (intro w hSw; (try dsimp only at hSw); go_simp; try with_reducible rfl)
      simp only [Act.put, List.setIfInBounds_toArray, List.set_cons_zero, List.set_cons_succ]
      refine tk 3 (v := ?_) rfl zz4 zz4 zz4 (fun _ _ _ h => h) zz37 (Or.inl ⟨zz54, ?_⟩) ?_
      rotate_left 1
      ·
       (intro w hSw; (try dsimp only at hSw); go_simp; try with_reducible rfl)
      simp only [Act.put, List.setIfInBounds_toArray, List.set_cons_zero, List.set_cons_succ]
      refine tk 4 (v := ?_) rfl zz4 zz4 zz4 (fun _ _ _ h => h) zz37 (Or.inl ⟨zz54, ?_⟩) ?_
      rotate_left 1
      ·
       (intro w hSw; (try dsimp only at hSw); go_simp; try with_reducible rfl)
      simp only [Act.put, List.setIfInBounds_toArray, List.set_cons_zero, List.set_cons_succ]
      refine tk 5 (v := ?_) rfl zz4 zz4 zz4 (fun _ _ _ h => h) zz37 (Or.inl ⟨zz54, ?_⟩) ?_
      rotate_left 1
      ·
       (intro w hSw; (try dsimp only at hSw); go_simp; try with_reducible rfl)
      simp only [Act.put, List.setIfInBounds_toArray, List.set_cons_zero, List.set_cons_succ]
      refine tk 6 (v := ?_) rfl zz4 zz4 zz4 (fun _ _ _ h => h) zz37 (Or.inl ⟨zz54, ?_⟩) ?_
      rotate_left 1
      ·
       (intro w hSw; (try dsimp only at hSw); go_simp; try with_reducible rfl)
      simp only [Act.put, List.setIfInBounds_toArray, List.set_cons_zero, List.set_cons_succ]
      refine tk 9 (v := ?_) rfl zz4 zz4 zz4 (fun _ _ _ h => h) zz37 (Or.inl ⟨zz54, ?_⟩) ?_
      rotate_left 1
      ·
       (intro w hSw; (try dsimp only at hSw); go_simp; try with_reducible rfl)
      simp only [Act.put, List.setIfInBounds_toArray, List.set_cons_zero, List.set_cons_succ]
      refine alone 7 rfl zz4 zz54 (fun K hK => ?_)
      go_simp
      refine hK.out _ _ (upc (hS2.lt (W := _)).u HCX.out) (fun hHeld => ?_)
      clear hK K
      try simp only [Act.put, List.setIfInBounds_toArray, List.set_cons_zero, List.set_cons_succ]
      refine aloneL 8 rfl zz4 (fun K hK => ?_)
      refine sp_app (W := w3.drew) Kd.string hS2 1 rfl (.tmp 40) (.tmp 45) 60 9 (.string ByteArray.empty) 16 rfl Try.underlying60 infoS rfl zz13 zz13 (.slice (some ⟨g, 0, none⟩) i i) (out.take i) x [.string x] rfl rfl (by exact rfl) rfl (by have := HXS.out; have := HXL.out; have := HK.out.1; rw [List.length_take]; omega) XS HXS.out _ (fun _ _ => rfl) ?_
      intro A4 c4 w4 hS3
      refine list_K ?_
      refine hK.out _ _ (upc (hS3.lt (W := _)).u HCX.out) (fun hHeld => ?_)
      clear hK K hS2
      try simp only [Act.put, List.setIfInBounds_toArray, List.set_cons_zero, List.set_cons_succ]
      refine aloneL 10 rfl zz4 (fun K hK => ?_)
      refine sp_apps Kd.string hS3 1 rfl (.tmp 46) (.tmp 47) 60 9 (.string ByteArray.empty) 16 rfl Try.underlying60 infoS rfl zz13 zz13 (.slice A4 XS.length c4) XS Z A3 Z.length c3 rfl rfl (by exact rfl) (by exact hS3.reads 0) (fun _ _ h => h) (by have := HXL.out; have := HZL.out; have := HK.out.1; omega) (XS ++ Z) rfl _ (fun _ _ => rfl) ?_
      intro A5 c5 w5 hS4
      refine list_K ?_
      refine hK.out _ _ (upc (hS4.lt (W := _)).u HCX.out) (fun hHeld => ?_)
      clear hK K hS3
      try simp only [Act.put, List.setIfInBounds_toArray, List.set_cons_zero, List.set_cons_succ]
      refine tk 11 (v := ?_) rfl zz4 zz4 zz4 (fun _ _ _ h => h) zz37 (Or.inl ⟨zz54, ?_⟩) ?_
      rotate_left 1
      ·
       (intro w hSw; (try dsimp only at hSw); go_simp; try with_reducible rfl)
      simp only [Act.put, List.setIfInBounds_toArray, List.set_cons_zero, List.set_cons_succ]
      refine wpAnyH_done zz4 ?_ _
      go_wp2
      go_roundg (go - 1)
      case measure => have := HI.out.2; have := HGO.out; have := HLT.out; omega
      case rel =>
       have hfin : rsort (l.take (i + 1)) = XS ++ Z := by
        rw [← HSN.out, HO.out.1]
        unfold rins
        rw [HO.out.2.1, HKP.out, HXS.out, HZ.out]
       have hlen : (XS ++ Z).length = i + 1 := by rw [← hfin, HLEN.out, List.length_take, HLN.out]; have := HLT.out; omega
       exact ⟨i + 1, A5, c5, XS ++ Z, by rw [← hlen, List.length_append], rfl, ⟨by have := HLT.out; omega, zz84⟩, ⟨hfin, hlen, by rw [← hfin]; exact rsort_mem (fun s hs => HSZ.out s (List.mem_of_mem_take hs))⟩, ⟨zz81⟩⟩
     ·
      have CT : ∀ {W : World} {l2 : List Ast} {v : Value}, Sp w None0 (row Kd.string 9 v [] :: row Kd.string 9 (.slice (some ⟨g, 0, none⟩) i c1) out :: l2) W → Kd.string.C W (some ⟨g, q, none⟩) (i - q) Z := fun {W l2 v} h => by
       have hR := h.row 1
       have h1 := Kd.R_reads' hR
       have h2 : Kd.string.C W (some (⟨g, 0, none⟩ : Addr)) out.length out := by rw [HO.out.2.1]; exact h.reads 1
       have h3 := Kd.C_drop (m := q) (c := c1) h2 (by rw [HO.out.2.1]; exact hqi) (by rw [HO.out.2.1]; exact hic)
       rw [if_neg hcq, hZ, HZE] at h3
       rw [Option.map_some, show Kd.string.sz = 1 from rfl, Nat.mul_one, add_plain] at h3
       first | exact h3 | (rw [Nat.zero_add] at h3; exact h3)
      clear hZ HZE
      go_wp2
      go_quiet ((go_at_call 60; exact qleft (HCL.out _)))
      clear hcx hcy
      replace hS : Sp w None0 _ (wr.drewN nq) := hS.lt
      generalize wr.drewN nq = W1 at hS ⊢
      go_wp2_with (first
       | ((with_reducible refine gate_dst (N := 33) rfl ?_)
          (go_loud (refine sp_lit Kd.string hS 9 rfl (N := 33) rfl ([] : List ByteArray) [] zz20 ⟨rfl, fun j p hj => by simp at hj⟩ zz13 ?_))
          (go_loud (intro A2 c2 w1 hS))
          (go_loud (have HCT := Aside0.mk (CT hS))))
       | ((with_reducible refine gate_builtin (b := .append) (xs := #[.tmp 33, .tmp 36]) rfl ?_); at_builtin
          (go_loud (refine sp_apps Kd.string hS 0 rfl (.tmp 33) (.tmp 36) 60 9 (.string ByteArray.empty) 16 rfl Try.underlying60 infoS rfl zz13 zz13 (.slice A2 0 c2) [] Z _ _ _ rfl rfl (by exact rfl) (by exact HCT.out) (fun _ _ h => h) (by have := HM.out; simp only [List.length_nil]; omega) Z rfl _ (fun _ _ => rfl) ?_))
          (go_loud (clear HCT))
          (go_loud (intro A3 c3 w3 hS))))
      have hS2 := Sp.turn hS 1 (row Kd.string 9 (.slice (some ⟨g, 0, none⟩) i c1) out) (row Kd.string 9 (.slice (some ⟨g, 0, none⟩) q c1) (out.take q)) rfl (fun T h => Kd.R_take h (by have := HO.out.2.1; have := HK.out.1; omega))
      replace hS2 : Sp w None0 [row Kd.string 9 (.slice A3 Z.length c3) Z, row Kd.string 9 (.slice (some ⟨g, 0, none⟩) q c1) (out.take q)] _ := hS2
      have hRC := hS.row 1
      obtain ⟨XS, hXS⟩ : ∃ z, out.take q ++ [x] = z := ⟨_, rfl⟩
      have HXS := Aside0.mk hXS
      have HXL := Aside0.mk (show XS.length = q + 1 by rw [← hXS, List.length_append, List.length_take, HO.out.2.1]; have := HK.out.1; simp <;> omega)
      clear hXS
      refine wp_region_held_drew (S := fun W => W.cell? (ad.add i) = some (.string x)) zz4 (upc (hS2.lt (W := _)).u HCX.out) (fun hHeld => ?_)
      refine tk 0 (v := ?_) rfl zz4 zz4 zz4 (fun _ _ _ h => h) zz37 (Or.inl ⟨zz54, ?_⟩) ?_
      rotate_left 1
      ·
       (intro w hSw; (try dsimp only at hSw); go_simp; try with_reducible rfl)
      simp only [Act.put, List.setIfInBounds_toArray, List.set_cons_zero, List.set_cons_succ]
      refine tk 1 (v := ?_) rfl zz4 zz4 zz4 (fun _ _ _ h => h) zz37 (Or.inl ⟨zz54, ?_⟩) ?_
      rotate_left 1
      ·
       (intro w hSw; (try dsimp only at hSw); go_simp; try with_reducible rfl)
      simp only [Act.put, List.setIfInBounds_toArray, List.set_cons_zero, List.set_cons_succ]
      refine tk 2 (v := ?_) rfl zz4 zz4 zz4 (fun _ _ _ h => h) zz37 (Or.inl ⟨zz54, ?_⟩) ?_
      rotate_left 1
      ·
       (intro w hSw; (try dsimp only at hSw); go_simp; try with_reducible rfl)
      simp only [Act.put, List.setIfInBounds_toArray, List.set_cons_zero, List.set_cons_succ]
      refine tk 3 (v := ?_) rfl zz4 zz4 zz4 (fun _ _ _ h => h) zz37 (Or.inl ⟨zz54, ?_⟩) ?_
      rotate_left 1
      ·
       (intro w hSw; (try dsimp only at hSw); go_simp; try with_reducible rfl)
      simp only [Act.put, List.setIfInBounds_toArray, List.set_cons_zero, List.set_cons_succ]
      refine tk 4 (v := ?_) rfl zz4 zz4 zz4 (fun _ _ _ h => h) zz37 (Or.inl ⟨zz54, ?_⟩) ?_
      rotate_left 1
      ·
       (intro w hSw; (try dsimp only at hSw); go_simp; try with_reducible rfl)
      simp only [Act.put, List.setIfInBounds_toArray, List.set_cons_zero, List.set_cons_succ]
      refine tk 5 (v := ?_) rfl zz4 zz4 zz4 (fun _ _ _ h => h) zz37 (Or.inl ⟨zz54, ?_⟩) ?_
      rotate_left 1
      ·
       (intro w hSw; (try dsimp only at hSw); go_simp; try with_reducible rfl)
      simp only [Act.put, List.setIfInBounds_toArray, List.set_cons_zero, List.set_cons_succ]
      refine tk 6 (v := ?_) rfl zz4 zz4 zz4 (fun _ _ _ h => h) zz37 (Or.inl ⟨zz54, ?_⟩) ?_
      rotate_left 1
      ·
       (intro w hSw; (try dsimp only at hSw); go_simp; try with_reducible rfl)
      simp only [Act.put, List.setIfInBounds_toArray, List.set_cons_zero, List.set_cons_succ]
      refine tk 9 (v := ?_) rfl zz4 zz4 zz4 (fun _ _ _ h => h) zz37 (Or.inl ⟨zz54, ?_⟩) ?_
      rotate_left 1
      ·
       (intro w hSw; (try dsimp only at hSw); go_simp; try with_reducible rfl)
      simp only [Act.put, List.setIfInBounds_toArray, List.set_cons_zero, List.set_cons_succ]
      refine alone 7 rfl zz4 zz54 (fun K hK => ?_)
      go_simp
      refine hK.out _ _ (upc (hS2.lt (W := _)).u HCX.out) (fun hHeld => ?_)
      clear hK K
      try simp only [Act.put, List.setIfInBounds_toArray, List.set_cons_zero, List.set_cons_succ]
      refine aloneL 8 rfl zz4 (fun K hK => ?_)
      refine sp_app (W := w3.drew) Kd.string hS2 1 rfl (.tmp 40) (.tmp 45) 60 9 (.string ByteArray.empty) 16 rfl Try.underlying60 infoS rfl zz13 zz13 (.slice (some ⟨g, 0, none⟩) q c1) (out.take q) x [.string x] rfl rfl (by exact rfl) rfl (by have := HXS.out; have := HXL.out; have := HK.out.1; rw [List.length_take]; omega) XS HXS.out _ (fun _ _ => rfl) ?_
      intro A4 c4 w4 hS3
      refine list_K ?_
      refine hK.out _ _ (upc (hS3.lt (W := _)).u HCX.out) (fun hHeld => ?_)
      clear hK K hS2
      try simp only [Act.put, List.setIfInBounds_toArray, List.set_cons_zero, List.set_cons_succ]
      refine aloneL 10 rfl zz4 (fun K hK => ?_)
      refine sp_apps Kd.string hS3 1 rfl (.tmp 46) (.tmp 47) 60 9 (.string ByteArray.empty) 16 rfl Try.underlying60 infoS rfl zz13 zz13 (.slice A4 XS.length c4) XS Z A3 Z.length c3 rfl rfl (by exact rfl) (by exact hS3.reads 0) (fun _ _ h => h) (by have := HXL.out; have := HZL.out; have := HK.out.1; omega) (XS ++ Z) rfl _ (fun _ _ => rfl) ?_
      intro A5 c5 w5 hS4
      refine list_K ?_
      refine hK.out _ _ (upc (hS4.lt (W := _)).u HCX.out) (fun hHeld => ?_)
      clear hK K hS3
      try simp only [Act.put, List.setIfInBounds_toArray, List.set_cons_zero, List.set_cons_succ]
      refine tk 11 (v := ?_) rfl zz4 zz4 zz4 (fun _ _ _ h => h) zz37 (Or.inl ⟨zz54, ?_⟩) ?_
      rotate_left 1
      ·
       (intro w hSw; (try dsimp only at hSw); go_simp; try with_reducible rfl)
      simp only [Act.put, List.setIfInBounds_toArray, List.set_cons_zero, List.set_cons_succ]
      refine wpAnyH_done zz4 ?_ _
      go_wp2
      go_roundg (go - 1)
      case measure => have := HI.out.2; have := HGO.out; have := HLT.out; omega
      case rel =>
       have hfin : rsort (l.take (i + 1)) = XS ++ Z := by
        rw [← HSN.out, HO.out.1]
        unfold rins
        rw [HO.out.2.1, HKP.out, HXS.out, HZ.out]
       have hlen : (XS ++ Z).length = i + 1 := by rw [← hfin, HLEN.out, List.length_take, HLN.out]; have := HLT.out; omega
       exact ⟨i + 1, A5, c5, XS ++ Z, by rw [← hlen, List.length_append], rfl, ⟨by have := HLT.out; omega, zz84⟩, ⟨hfin, hlen, by rw [← hfin]; exact rsort_mem (fun s hs => HSZ.out s (List.mem_of_mem_take hs))⟩, ⟨zz81⟩⟩
end Go.Proofs.Ytgddaddoabjgiaa.Srt
namespace Go.Proofs.Ytgddaddoabjgiaa.Srt
set_option linter.unusedVariables false
set_option linter.unusedSimpArgs false
theorem getD_mid {α : Type} (P : List α) (y : α) (T : List α) (z : α) (j : Nat) (hj : P.length = j) : (P ++ y :: T).getD j z = y := by
 subst hj
 rw [List.getD_eq_getElem?_getD, List.getElem?_append_right (Nat.le_refl _), Nat.sub_self]; rfl
theorem set_two {α : Type} : ∀ (P : List α) (y x : α) (T : List α), ((P ++ y :: x :: T).set (P.length + 1) y).set P.length x = P ++ x :: y :: T
 | [], y, x, T => rfl
 | p :: P, y, x, T => by simp
theorem sift_back (x : ByteArray) (S R : List ByteArray) : ∀ j, j ≤ S.length → sift 0 j (S.take j ++ x :: (S.drop j ++ R)) = S.take (back x S j) ++ x :: (S.drop (back x S j) ++ R)
 | 0, _ => rfl
 | j + 1, h => by
   have hj : j < S.length := h
   have h1 : S.take (j + 1) = S.take j ++ [S[j]] := by rw [List.take_succ_eq_append_getElem hj]
   have h2 : S.drop j = S[j] :: S.drop (j + 1) := List.drop_eq_getElem_cons hj
   have hl : (S.take j).length = j := by rw [List.length_take]; omega
   have e : S.take (j + 1) ++ x :: (S.drop (j + 1) ++ R) = S.take j ++ S[j] :: x :: (S.drop (j + 1) ++ R) := by rw [h1, List.append_assoc]; rfl
   have g1 : (S.take j ++ S[j] :: x :: (S.drop (j + 1) ++ R)).getD j ByteArray.empty = S[j] := getD_mid _ _ _ _ _ hl
   have g2 : (S.take j ++ S[j] :: x :: (S.drop (j + 1) ++ R)).getD (j + 1) ByteArray.empty = x := by
    have := getD_mid (S.take j ++ [S[j]]) x (S.drop (j + 1) ++ R) ByteArray.empty (j + 1) (by rw [List.length_append, hl]; rfl)
    rw [List.append_assoc] at this
    exact this
   have g3 : S.getD j ByteArray.empty = S[j] := by rw [List.getD_eq_getElem?_getD, List.getElem?_eq_getElem hj]; rfl
   rw [e]
   unfold sift
   rw [g1, g2]
   have hc := cm_swap S[j] x
   unfold back
   rw [g3]
   by_cases hk : 0 < cm S[j] x
   ·
    rw [if_pos ⟨Nat.succ_pos _, zz7⟩, if_pos hk]
    have hs := set_two (S.take j) S[j] x (S.drop (j + 1) ++ R)
    rw [hl] at hs
    rw [hs]
    have ih := sift_back x S R j (Nat.le_of_succ_le h)
    rw [h2, List.cons_append] at ih
    exact ih
   ·
    rw [if_neg (fun h => hk zz7), if_neg hk, e]
theorem sift_rins (x : ByteArray) (S R : List ByteArray) : sift 0 S.length (S ++ x :: R) = rins S x ++ R := by
 have h := sift_back x S R S.length (Nat.le_refl _)
 rw [List.take_length, List.drop_length, List.nil_append] at h
 rw [h]
 unfold rins
 simp
theorem insF_fold : ∀ (R S : List ByteArray), insF 0 S.length R.length (S ++ R) = R.foldl rins S
 | [], S => by simp [insF]
 | x :: R, S => by
   rw [List.length_cons, insF, sift_rins, ← rins_len S x, insF_fold R (rins S x), List.foldl_cons]
theorem srt_rsort (l : List ByteArray) : srt l = rsort l := by
 unfold srt rsort
 cases l with
 | nil => rfl
 | cons x r =>
   have h := insF_fold r [x]
   rw [List.foldl_cons]
   have e : rins [] x = [x] := rfl
   rw [e, ← h]
   rfl
end Go.Proofs.Ytgddaddoabjgiaa.Srt
namespace Go.Proofs.Ytgddaddoabjgiaa.At
open RowKit YtgddaddoabjgiaaW.PrintWords YtgddaddoabjgiaaW.PrintLast YtgddaddoabjgiaaW.PrintMore Own Sl Bs El Wr Oid Oidm Kn Cn
set_option linter.unusedVariables false
set_option linter.unusedSimpArgs false
set_option maxHeartbeats 4000000 in
set_option maxRecDepth 100000 in
theorem rid_any (A : Option Addr) (c : Nat) (l : List Int) (w : World) (hC : (Kd.int .u64).C w A l.length l) (hcap : l.length ≤ c) (hA : Arcs l) :
 Calls Try.prog 26 #[.slice A l.length c] w fun e w' => e = .returned (.tuple #[.string (idb l), .bool (oidOk l)]) ∧ Upd None0 w w' := by
 have HP : Calls Try.prog 47 #[.slice A l.length c] w fun e w' => e = .returned (.tuple #[.string (idc l), .bool (oidOk l)]) ∧ Upd None0 w w' := by
  unfold idc
  cases h : oidOk l with
  | true => exact rput_ok A c l w hC hcap hA h
  | false => exact rput_bad A c l w hC hA h
 have hL : ∀ W, Calls Try.prog 28 #[.int .i64 6, .string (idc l)] W fun e w' => e = .returned (.string (idb l)) ∧ Upd None0 W w' := fun W => rleaf_ok (t := 6) (idc l) W zz13 (by have := idc_size l hA; omega)
 have HL := Aside0.mk hL
 have HPA := Aside0.mk HP
 obtain ⟨n, hn⟩ : ∃ n, l.length = n := ⟨_, rfl⟩
 rw [hn] at HPA ⊢
 clear hC hcap hA hL HP hn
 go_enter Try.func26, Try.ntmps26
 go_wp2_with (first
  | (go_at_call 47
     (with_reducible refine HPA.out.mono ?_)
     rintro e w3 ⟨rfl, hun⟩
     have HU := Aside0.mk hun
     clear hun)
  | (go_at_call 28
     (with_reducible refine (HL.out _).mono ?_)
     rintro e w4 ⟨rfl, hun⟩
     have HU2 := Aside0.mk hun
     clear hun))
 go_ret2
 exact ⟨rfl, HU.out.trans ((lu : Upd None0 w3 _).trans HU2.out (fun _ h => h.elim)) (fun _ h => h.elim)⟩
theorem datc_low (s : ByteArray) (h : s.size = 14) (hu : datU s = true) : s.extract 2 s.size ++ (⟨#[90]⟩ : ByteArray) = datc s := by
 unfold datc
 rw [if_pos hu, ← nums_bytesOf (s.extract 2 s.size ++ (⟨#[90]⟩ : ByteArray)), bytesOf_append, BDat.zed, BDat.bytesOf_part, List.take_of_length_le (by rw [List.length_drop, bytesOf_length]; omega)]
open Classical in
set_option maxHeartbeats 4000000 in
set_option maxRecDepth 100000 in
theorem rdat_any (s : ByteArray) (w : World) :
 Calls Try.prog 36 #[.string s] w fun e w' => e = .returned (.tuple #[.string (if datOk s then datb s else ByteArray.empty), .bool (datOk s)]) ∧ Upd None0 w w' := by
 have HR := Aside0.mk (rdate_any s w)
 by_cases hf : Dt.full (bytesOf s)
 ·
  have hl : (bytesOf s).length = 14 := hf.1
  have hz : s.size = 14 := by rw [← bytesOf_length]; exact hl
  have l1 := BDat.less_1950 s hf.2.1 zz7
  have l2 := BDat.less_2050 s hf.2.1 zz7
  have hdf : decide (Dt.full (bytesOf s)) = true := decide_eq_true hf
  rw [hdf] at HR
  by_cases hy : Dt.yr (bytesOf s) < 1950
  ·
   have hok : datOk s = false := by rw [← Bool.not_eq_true, datOk_iff]; rintro ⟨_, h⟩; omega
   rw [decide_eq_true hy] at l1
   rw [hok]
   clear hf hl hdf hy hok l2
   go_enter Try.func36, Try.ntmps36
   go_wp2_with (first
    | (go_at_call 51
       (with_reducible refine HR.out.mono ?_)
       rintro e w3 ⟨rfl, hun⟩
       have HU := Aside0.mk hun
       clear hun))
   go_ret2
   exact ⟨rfl, HU.out⟩
  ·
   have hok : datOk s = true := (datOk_iff s).2 ⟨hf, zz7⟩
   rw [decide_eq_false hy] at l1
   have hcs := datc_size s hok
   have hL : ∀ W, Calls Try.prog 28 #[.int .i64 (datt s), .string (datc s)] W fun e w' => e = .returned (.string (datb s)) ∧ Upd None0 W w' := fun W => rleaf_ok (t := datt s) (datc s) W (by rcases datt_cases s with h | h <;> omega) zz7
   have HL := Aside0.mk hL
   have hc1 : ¬ 9223372036854775807 < s.size + 1 := by omega
   have hc2 : s.size + 1 ≤ 9223372036854775807 := by omega
   rw [hok]
   by_cases hy2 : Dt.yr (bytesOf s) < 2050
   ·
    have hu : datU s = true := decide_eq_true hy2
    have ht : datt s = 23 := by unfold datt; rw [if_pos hu]
    have hcc := datc_low s hz hu
    rw [decide_eq_true hy2] at l2
    rw [ht, ← hcc, hz] at HL
    obtain ⟨y, hyy⟩ : ∃ y, datb s = y := ⟨_, rfl⟩
    rw [hyy] at HL ⊢
    have hz2 : (2 : Int) ≤ (s.size : Int) := by omega
    have hz3 : (s.extract 2 s.size).size + 1 ≤ 9223372036854775807 := by rw [ByteArray.size_extract]; omega
    have hz4 : ¬ 9223372036854775807 < (s.extract 2 s.size).size + 1 := by rw [ByteArray.size_extract]; omega
    clear hf hl hdf hy hy2 hok hL hcs hu ht hcc hyy
    go_enter Try.func36, Try.ntmps36
    go_wp2_with (first
     | (go_at_call 51
        (with_reducible refine HR.out.mono ?_)
        rintro e w3 ⟨rfl, hun⟩
        have HU := Aside0.mk hun
        clear hun)
     | (go_at_call 28
        (with_reducible refine (HL.out _).mono ?_)
        rintro e w4 ⟨rfl, hun⟩
        have HU2 := Aside0.mk hun
        clear hun))
    go_ret2
    exact ⟨rfl, HU.out.trans ((lu : Upd None0 w3 _).trans HU2.out (fun _ h => h.elim)) (fun _ h => h.elim)⟩
   ·
    have hu : ¬ datU s = true := by unfold datU; rw [decide_eq_true_iff]; exact hy2
    have ht : datt s = 24 := by unfold datt; rw [if_neg hu]
    have hcc : datc s = s ++ (⟨#[90]⟩ : ByteArray) := by unfold datc; rw [if_neg hu]
    rw [decide_eq_false hy2] at l2
    rw [ht, hcc] at HL
    obtain ⟨y, hyy⟩ : ∃ y, datb s = y := ⟨_, rfl⟩
    rw [hyy] at HL ⊢
    clear hf hl hdf hy hy2 hok hL hcs hu ht hcc hyy
    go_enter Try.func36, Try.ntmps36
    go_wp2_with (first
     | (go_at_call 51
        (with_reducible refine HR.out.mono ?_)
        rintro e w3 ⟨rfl, hun⟩
        have HU := Aside0.mk hun
        clear hun)
     | (go_at_call 28
        (with_reducible refine (HL.out _).mono ?_)
        rintro e w4 ⟨rfl, hun⟩
        have HU2 := Aside0.mk hun
        clear hun))
    go_ret2
    exact ⟨rfl, HU.out.trans ((lu : Upd None0 w3 _).trans HU2.out (fun _ h => h.elim)) (fun _ h => h.elim)⟩
 ·
  have hok : datOk s = false := by rw [← Bool.not_eq_true, datOk_iff]; rintro ⟨h, _⟩; exact hf h
  have hdf : decide (Dt.full (bytesOf s)) = false := decide_eq_false hf
  rw [hdf] at HR
  rw [hok]
  clear hf hdf hok
  go_enter Try.func36, Try.ntmps36
  go_wp2_with (first
   | (go_at_call 51
      (with_reducible refine HR.out.mono ?_)
      rintro e w3 ⟨rfl, hun⟩
      have HU := Aside0.mk hun
      clear hun))
  go_ret2
  exact ⟨rfl, HU.out⟩
end Go.Proofs.Ytgddaddoabjgiaa.At
namespace Go.Proofs.Ytgddaddoabjgiaa.At
open RowKit YtgddaddoabjgiaaW.PrintWords YtgddaddoabjgiaaW.PrintLast YtgddaddoabjgiaaW.PrintMore Own Sl Bs El Wr Oid Oidm Kn Cn
set_option linter.unusedVariables false
set_option linter.unusedSimpArgs false
theorem cat_take (l : List S51) (i : Nat) (x : S51) (h : l[i]? = some x) (ho : oidOk x.f0 = true) : cat ((l.take i).map extx) ++ extb x = cat ((l.take (i + 1)).map extx) := by
 rw [← take_map_snoc extx l i x h, cat_snoc]
 unfold extx
 rw [if_pos ho]
theorem cat_le (f : S51 → ByteArray) (M : Nat) (l : List S51) (h : ∀ x, x ∈ l → (f x).size ≤ M) (i : Nat) (hi : i ≤ 100) : (cat ((l.take i).map f)).size ≤ M * 100 :=
 Nat.le_trans (cat_all f M (l.take i) (fun x hx => h x (List.mem_of_mem_take hx))) (Nat.mul_le_mul_left _ (Nat.le_trans (List.length_take_le i l) hi))
set_option maxHeartbeats 4000000 in
set_option maxRecDepth 100000 in
theorem rexts_any (A : Option Addr) (c : Nat) (l : List S51) (w : World) (hC : k51.C w A l.length l) (hcap : l.length ≤ c) (hA : ∀ x, x ∈ l → ExtP x) (hn : l.length ≤ 100) :
 Calls Try.prog 17 #[.slice A l.length c] w fun e w' => e = .returned (.tuple #[.string (if extsOk l then extsb l else ByteArray.empty), .bool (extsOk l)]) ∧ Upd None0 w w' := by
 have hu := Try.underlying51
 have HC0 := Aside0.mk hC
 have HPX := Aside0.mk hA
 obtain ⟨n, hln⟩ : ∃ n, l.length = n := ⟨_, rfl⟩
 have HLN := Aside0.mk hln
 obtain ⟨Y, hY⟩ : ∃ y, (if extsOk l then extsb l else ByteArray.empty) = y := ⟨_, rfl⟩
 obtain ⟨OK, hOK⟩ : ∃ y, extsOk l = y := ⟨_, rfl⟩
 rw [hY, hOK]
 have HY := Aside0.mk hY
 have HOK := Aside0.mk hOK
 rw [hln] at hn HC0 ⊢
 have HN := Aside0.mk hn
 clear hC hcap hA hY hOK
 by_cases h0 : n = 0
 ·
  subst h0
  have hl0 : l = [] := List.eq_nil_of_length_eq_zero hln
  subst hl0
  have h1 := HOK.out
  have h2 := HY.out
  have e1 : extsOk ([] : List S51) = false := rfl
  rw [e1] at h1 h2
  subst h1 h2
  clear hln HLN HPX HC0 HN HOK HY e1 hn
  go_enter Try.func17, Try.ntmps17
  go_wp2
  go_ret2
  exact ⟨rfl, lu⟩
 have hb1 : ((n : Int) == 0) = false := by cases n with
  | zero => exact absurd rfl h0
  | succ n => rfl
 have hb2 : decide ((n : Int) = 0) = false := decide_eq_false zz7
 have HNE := Aside0.mk h0
 clear hn hln h0
 go_enter Try.func17, Try.ntmps17
 go_wp2
 go_loopg [4, 5] n (fun gk v4 v5 wr => ∃ (i : Nat), v4 = .string (cat ((l.take i).map extx)) ∧ v5 = .int .i64 (i : Int) ∧ Aside0 (i ≤ n ∧ n - i ≤ gk) ∧ Aside0 ((l.take i).all (fun x => oidOk x.f0) = true) ∧ Aside0 (Sp w None0 [] wr))
 case atStart => exact ⟨0, rfl, rfl, ⟨Nat.zero_le _, zz7⟩, ⟨rfl⟩, ⟨(Sp.nil (w := w) (S := None0)).lt⟩⟩
 case round =>
  obtain ⟨i, rfl, rfl, HI, HA, HS⟩ := hrel
  have hS := HS.out
  clear HS
  clear hb1 hb2
  have hz0 : (cat ((l.take i).map extx)).size ≤ 30100 * 100 := cat_le extx 30100 l (fun x hx => extx_size x (HPX.out x hx)) i (by have := HI.out.1; have := HN.out; omega)
  by_cases hlt : i < n
  ·
   have hd : decide ((i : Int) < (n : Int)) = true := decide_eq_true zz7
   have hil : i < l.length := by rw [HLN.out]; exact hlt
   have hxi := rd_some l i z51 hil
   obtain ⟨ad, A0, c0, rfl, h0, h1, h2, hl0, hi0⟩ := at_T51 HC0.out (i : Int) zz7 zz7
   rw [Int.toNat_natCast] at h0 h1 h2
   obtain ⟨x, hx⟩ : ∃ x, rd_T51 l (i : Int) = x := ⟨_, rfl⟩
   have hxx : l[i]? = some x := hx ▸ hxi
   rw [hx] at h0 h1 h2 hl0 hi0
   have hxP := HPX.out x (List.mem_of_getElem? hxx)
   have hw1 : IntKind.i64.wrap ((i : Int) + 1) = ((i + 1 : Nat) : Int) := by have := HN.out; rw [IntKind.wrap_i64]; omega
   have hlti : (i : Int) < (n : Int) := by omega
   have hi00 : (0 : Int) ≤ (i : Int) := by omega
   have HID := Aside0.mk (fun (W : World) (h : Upd None0 w W) => rid_any A0 c0 x.f0 W (Kd.C_below hi0 h.below0) hl0 hxP.1)
   obtain ⟨m, hm⟩ : ∃ m, x.f0.length = m := ⟨_, rfl⟩
   rw [hm] at h0 HID
   cases hok : oidOk x.f0 with
   | false =>
     have hno : extsOk l = false := by
      unfold extsOk
      rw [Bool.and_eq_false_iff]
      refine .inr ?_
      rw [← Bool.not_eq_true, List.all_eq_true]
      intro hall
      have := hall x (List.mem_of_getElem? hxx)
      rw [hok] at this
      cases this
     have e1 := HOK.out
     have e2 := HY.out
     rw [hno] at e1 e2
     subst e1 e2
     rw [hok] at HID
     have HK0 := Aside0.mk h0
     have k0 := up_cell hS.u h0
     clear h0 h1 h2 hno hok hxx hx hxi hil hi0 hl0 hxP hm HY HOK hz0
     go_wp2_with (first
      | (go_at_call 26
         (with_reducible refine (HID.out _ hS.lt.u).mono ?_)
         rintro e w6 ⟨rfl, hun⟩
         replace hS := hS.toN hun))
     go_ret2
     exact ⟨rfl, hS.lt.u⟩
   | true =>
     rw [hok] at HID
     have HCT := Aside0.mk (cat_take l i x hxx hok)
     have HALL := Aside0.mk (show (l.take (i + 1)).all (fun x => oidOk x.f0) = true by rw [List.take_add_one, hxx, Option.toList_some, List.all_append, HA.out]; simp [hok])
     have z1 := idb_size x.f0 hxP.1
     have z4 := (elb_size (c := 0) (t := 4) false (s := x.f2) ⟨zz13, zz13, zz13, zz13⟩ (by have := hxP.2; omega)).2
     have z3 := (elb_size (c := 0) (t := 1) false (s := ⟨#[255]⟩) ⟨zz13, zz13, zz13, zz13⟩ zz13).2
     have zx := extb_size x hxP
     have zv := hxP.2
     have hz255 : (⟨#[255]⟩ : ByteArray).size = 1 := rfl
     have HL1 := Aside0.mk (fun W => rleaf_ok (t := 1) ⟨#[255]⟩ W zz13 zz13)
     have HL4 := Aside0.mk (fun W => rleaf_ok (t := 4) x.f2 W zz13 zz7)
     have HSQ := Aside0.mk (fun W => rseq_ok (cat (extl x)) W (by have := extl_size x hxP; omega))
     have hex : elb 0 16 true (cat (extl x)) = extb x := rfl
     rw [hex] at HSQ
     have hcx : cat (extl x) = (if x.f1 then (idb x.f0 ++ elb 0 1 false ⟨#[255]⟩) ++ elb 0 4 false x.f2 else idb x.f0 ++ elb 0 4 false x.f2) := by
      unfold extl
      split
      ·
       simp [cat, ByteArray.append_assoc]
      ·
       simp [cat]
     rw [hcx] at HSQ
     obtain ⟨x1, hx1⟩ : ∃ y, idb x.f0 = y := ⟨_, rfl⟩
     obtain ⟨x3, hx3⟩ : ∃ y, elb 0 1 false (⟨#[255]⟩ : ByteArray) = y := ⟨_, rfl⟩
     obtain ⟨x4, hx4⟩ : ∃ y, elb 0 4 false x.f2 = y := ⟨_, rfl⟩
     obtain ⟨xb, hxb⟩ : ∃ y, extb x = y := ⟨_, rfl⟩
     obtain ⟨C, hCC⟩ : ∃ y, cat ((l.take i).map extx) = y := ⟨_, rfl⟩
     rw [hx1, hx3, hx4, hxb] at HSQ
     rw [hx1] at HID z1
     rw [hx3] at HL1 z3
     rw [hx4] at HL4 z4
     rw [hxb] at zx HCT
     rw [hCC] at hz0 HCT ⊢
     have s1 : ¬ 9223372036854775807 < C.size + xb.size := by omega
     have s2 : C.size + xb.size ≤ 9223372036854775807 := by omega
     have s3 : ¬ 9223372036854775807 < x1.size + x4.size := by omega
     have s4 : x1.size + x4.size ≤ 9223372036854775807 := by omega
     have s5 : ¬ 9223372036854775807 < x1.size + x3.size := by omega
     have s6 : x1.size + x3.size ≤ 9223372036854775807 := by omega
     have s7 : ¬ 9223372036854775807 < (x1 ++ x3).size + x4.size := by rw [ByteArray.size_append]; omega
     have s8 : (x1 ++ x3).size + x4.size ≤ 9223372036854775807 := by rw [ByteArray.size_append]; omega
     obtain ⟨xo, xc, xv⟩ := x
     dsimp only at h0 h1 h2 HID HL4 HSQ
     have HK0 := Aside0.mk h0
     have HK1 := Aside0.mk h1
     have HK2 := Aside0.mk h2
     have k0 := up_cell hS.u h0
     have k1 := up_cell hS.u h1
     have k2 := up_cell hS.u h2
     clear h0 h1 h2 hok hxx hx hxi hil hi0 hl0 hxP hm hz0 z1 z3 z4 zx zv hz255 hex hcx hx1 hx3 hx4 hxb hCC
     cases xc
     all_goals
      simp only [if_true, Bool.false_eq_true, if_false] at HSQ
      go_wp2_with (first
       | (go_at_call 26
          (with_reducible refine (HID.out _ hS.lt.u).mono ?_)
          rintro e w6 ⟨rfl, hun⟩
          replace hS := hS.toN hun
          clear k0 k1 k2 hun
          have k0 := up_cell hS.u HK0.out
          have k1 := up_cell hS.u HK1.out
          have k2 := up_cell hS.u HK2.out)
       | (go_at_call 28
          first
          | ((with_reducible refine (HL1.out _).mono ?_)
             rintro e w8 ⟨rfl, hun⟩
             replace hS := hS.toN hun
             clear k0 k1 k2 hun
             have k0 := up_cell hS.u HK0.out
             have k1 := up_cell hS.u HK1.out
             have k2 := up_cell hS.u HK2.out)
          | ((with_reducible refine (HL4.out _).mono ?_)
             rintro e w8 ⟨rfl, hun⟩
             replace hS := hS.toN hun
             clear k0 k1 k2 hun
             have k0 := up_cell hS.u HK0.out
             have k1 := up_cell hS.u HK1.out
             have k2 := up_cell hS.u HK2.out))
       | (go_at_call 27
          (with_reducible refine (HSQ.out _).mono ?_)
          rintro e w9 ⟨rfl, hun⟩
          replace hS := hS.toN hun
          clear k0 k1 k2 hun))
      go_roundg (gk - 1)
      case measure => have := HI.out.2; omega
      case rel => exact ⟨i + 1, by rw [HCT.out], rfl, ⟨zz7, by have := HI.out.2; omega⟩, HALL, ⟨hS.lt⟩⟩
  ·
   have hd : decide ((i : Int) < (n : Int)) = false := decide_eq_false zz7
   have hil : l.take i = l := List.take_of_length_le zz80
   have hyes : extsOk l = true := by
    have h1 := HA.out
    rw [hil] at h1
    have h2 := HNE.out
    have h3 := HLN.out
    unfold extsOk
    rw [h1, Bool.and_true]
    cases l with
    | nil => exact absurd h3.symm h2
    | cons y r => rfl
   have e1 := HOK.out
   have e2 := HY.out
   rw [hyes] at e1 e2
   subst e1
   have hxb : extsb l = elb 0 16 true (cat (l.map extx)) := rfl
   rw [if_pos rfl, hxb] at e2
   rw [hil] at hz0 ⊢
   have HSQ := Aside0.mk (fun W => rseq_ok (cat (l.map extx)) W zz7)
   rw [e2] at HSQ
   obtain ⟨C, hCC⟩ : ∃ y, cat (l.map extx) = y := ⟨_, rfl⟩
   rw [hCC] at HSQ ⊢
   clear hil hyes e2 hxb hCC hz0
   go_wp2_with (first
    | (go_at_call 27
       (with_reducible refine (HSQ.out _).mono ?_)
       rintro e w9 ⟨rfl, hun⟩
       replace hS := hS.toN hun))
   go_ret2
   exact ⟨rfl, hS.lt.u⟩
end Go.Proofs.Ytgddaddoabjgiaa.At
