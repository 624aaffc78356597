/- What the row of ValuePushes stands on, made small by a program of this session (pack.py). -/
import Derived.Test.YtpfconocipmcjaaCValuePushes2
import Derived.Test.YtpfconocipmcjaaCValuePushes19
namespace Go.Proofs.Ytpfconocipmcjaa.Vp
open RowKit PC YtpfconocipmcjaaW.PrintWords YtpfconocipmcjaaW.PrintLast YtpfconocipmcjaaW.PrintMore Own Sl
open Bs
set_option linter.unusedVariables false
set_option linter.unusedSimpArgs false
theorem mostOf_le (d : Int) : (mn (mx d 0) 64).toNat ≤ 64 := by unfold mn mx; split <;> split <;> omega
theorem evs_len (d : Int) (l : List Int) (hl : Idm.Bytes l) : (wholeM (mn (mx d 0) 64).toNat l).1.length ≤ l.length * 67 := by
 have hm := mostOf_le d
 obtain ⟨most, he⟩ : ∃ m, (mn (mx d 0) 64).toNat = m := ⟨_, rfl⟩
 rw [he] at hm ⊢
 have h3 : l.length * (most + 3) ≤ l.length * 67 := Nat.mul_le_mul_left _ zz3
 unfold wholeM
 rcases run_split most l [] init0 0 [] hl (inv0 most) with ⟨s', xs, a1, a2, a3, a4, a5⟩ | ⟨xs, e2, j, a1, a2, a3, a4, a5, a6, a7⟩
 ·
  rw [show ((0 : Nat) : Int) = 0 from rfl] at a4
  rw [a4, List.nil_append]
  exact Nat.le_trans a3 h3
 ·
  rw [show ((0 : Nat) : Int) = 0 from rfl] at a6
  rw [a6, List.nil_append]
  exact Nat.le_trans a5 h3
theorem evs_wf (most : Nat) (l : List Int) (hl : Idm.Bytes l) : WfL 0 (wholeM most l).1 := by
 obtain ⟨xs, h1, h2⟩ := run_wf most l init0 0 [] hl (inv0 most)
 unfold wholeM
 rw [show (0 : Int) = ((0 : Nat) : Int) from rfl, h1, List.nil_append]
 exact h2
def Left (l : List Ev) (i : Nat) (s : Cs) : Prop := (∃ r, Good s r ∧ WfL r (l.drop i)) ∧ badE s (l.drop i) = badE .any l
theorem left0 {l : List Ev} (h : WfL 0 l) : Left l 0 .any := ⟨⟨0, trivial, h⟩, rfl⟩
theorem left_step {l : List Ev} {i : Nat} {s : Cs} (h : Left l i s) {e : Ev} (he : l[i]? = some e) :
 (∃ r, Good s r ∧ okR r e) ∧ (lookC s e = none → badE .any l = some e) ∧ ∀ s', lookC s e = some s' → Left l (i + 1) s' := by
 obtain ⟨hi, he2⟩ := List.getElem?_eq_some_iff.1 he
 have hd : l.drop i = e :: l.drop (i + 1) := by rw [List.drop_eq_getElem_cons hi, he2]
 obtain ⟨⟨r, h1, h2⟩, h3⟩ := h
 rw [hd] at h2 h3
 refine ⟨⟨r, h1, h2.1⟩, fun hn => ?_, fun s' hs => ⟨⟨_, good_look h1 h2.1 hs, h2.2⟩, ?_⟩⟩
 ·
  rw [← h3]; unfold badE; rw [hn]
 ·
  rw [← h3]; conv => rhs; unfold badE
  rw [hs]
theorem left_end {l : List Ev} {i : Nat} {s : Cs} (h : Left l i s) (hi : l.length ≤ i) : badE .any l = none := by
 rw [← h.2, List.drop_eq_nil_of_le hi]; rfl
set_option maxHeartbeats 4000000 in
set_option maxRecDepth 100000 in
theorem whole_any (a : ByteArray) (d : Int) (w : World) (hs : a.size ≤ 700) :
 Calls Try.prog 9 #[.string a, .int .i64 d] w fun e w' => e = .returned (.tuple #[.int .i64 (wholeV (mn (mx d 0) 64).toNat (bytesOf a)).1, .int .i64 (wholeV (mn (mx d 0) 64).toNat (bytesOf a)).2]) ∧ Upd None0 w w' := by
 have hby : Idm.Bytes (bytesOf a) := bytes_of a
 have hlen := evs_len d (bytesOf a) hby
 have hwf := evs_wf (mn (mx d 0) 64).toNat (bytesOf a) hby
 rw [bytesOf_length] at hlen
 obtain ⟨⟨l, me, mat⟩, hw⟩ : ∃ q, wholeM (mn (mx d 0) 64).toNat (bytesOf a) = q := ⟨_, rfl⟩
 have HEV := Aside0.mk (event_Whole.calls a d l me mat w (by unfold event_Whole.f; rw [if_pos hs, hw]))
 rw [hw] at hlen hwf
 simp only at hlen hwf
 have HV := Aside0.mk (show wholeV (mn (mx d 0) 64).toNat (bytesOf a) = (badE .any l).elim (me, mat) (fun e => (7, e.f1)) by unfold wholeV; simp only [hw]; cases badE .any l <;> rfl)
 obtain ⟨⟨ve, vat⟩, hv⟩ : ∃ q, wholeV (mn (mx d 0) 64).toNat (bytesOf a) = q := ⟨_, rfl⟩
 rw [hv] at HV ⊢
 simp only
 have HL := Aside0.mk (show l.length ≤ 50000 by omega)
 have HWF := Aside0.mk hwf
 have hu := Try.underlying39
 have hS0 := Sp.nil (w := w) (S := None0)
 clear hby hlen hwf hw hv hs
 go_enter Try.func9, Try.ntmps9
 go_wp2_with (first
  | (go_at_call 15
     (with_reducible refine HEV.out.mono ?_)
     rintro e w1 ⟨v0, rfl, hR, hb⟩
     obtain ⟨A, c, rfl⟩ := Kd.R_slice hR
     have HC := Aside0.mk (Kd.R_reads' hR).2.2
     replace hS0 := hS0.toN (Upd.of_below hb : Upd None0 _ w1)
     clear hR hb)
  | (go_at_call 11
     (with_reducible refine (new_ck _).mono ?_)
     rintro e w2 ⟨g, rfl, hS⟩))
 obtain ⟨n, hln⟩ : ∃ n, l.length = n := ⟨_, rfl⟩
 have HLN := Aside0.mk hln
 rw [hln] at HC HL ⊢
 clear hln HEV
 go_loopg [22] n (fun gk v22 wr => ∃ (i : Nat) (s : Cs), v22 = .int .i64 (i : Int) ∧ Aside0 (i ≤ n ∧ n - i ≤ gk ∧ Left l i s) ∧ Aside0 (Sp w1 None0 [ck g (some s)] wr))
 case atStart => exact ⟨0, .any, rfl, ⟨Nat.zero_le _, zz3, left0 HWF.out⟩, ⟨hS⟩⟩
 case round =>
  clear hS
  obtain ⟨i, s, rfl, HI, HS⟩ := hrel
  have hS := HS.out
  clear HS
  have hi0 : (0 : Int) ≤ (i : Int) := by omega
  have hi1 : (i : Int) ≤ 50000 := by have := HI.out; have := HL.out; omega
  by_cases hlt : i < n
  case neg =>
   have hd : decide (i < n) = false := decide_eq_false hlt
   have HE := Aside0.mk (show me = ve ∧ mat = vat by
    have h1 := left_end HI.out.2.2 (by have := HLN.out; omega)
    have h2 := HV.out
    rw [h1] at h2
    simp only [Option.elim, Prod.mk.injEq] at h2
    exact ⟨h2.1.symm, h2.2.symm⟩)
   clear hlt HI
   go_wp2
   go_ret2
   rw [HE.out.1, HE.out.2]
   exact ⟨rfl, hS0.u.trans hS.u (fun _ h => h.elim)⟩
  have hd : decide (i < n) = true := decide_eq_true hlt
  have hli : i < l.length := by rw [HLN.out]; exact hlt
  obtain ⟨ad, rfl, h0, h1, h2, h3, h4, h5, h6⟩ := at_T39 HC.out (i : Int) hi0 zz3
  replace h0 := up_cell hS.u h0
  replace h1 := up_cell hS.u h1
  replace h2 := up_cell hS.u h2
  replace h3 := up_cell hS.u h3
  replace h4 := up_cell hS.u h4
  replace h5 := up_cell hS.u h5
  replace h6 := up_cell hS.u h6
  rw [Int.toNat_natCast] at h0 h1 h2 h3 h4 h5 h6
  obtain ⟨e, he⟩ : ∃ e, rd_T39 l (i : Int) = e := ⟨_, rfl⟩
  have hle : l[i]? = some e := by rw [← he, rd_drop l i hli]; exact List.getElem?_eq_getElem hli
  rw [he] at h0 h1 h2 h3 h4 h5 h6
  obtain ⟨⟨r, hg, ho⟩, hn, hsx⟩ := left_step HI.out.2.2 hle
  have HPU := Aside0.mk (fun W S h => push_ev g s e r hg ho W S h)
  have HN := Aside0.mk hn
  have HSX := Aside0.mk hsx
  have HLT := Aside0.mk hlt
  obtain ⟨⟨kd, at_, ⟨cl, tag, cons, ln⟩, b⟩, hq⟩ : ∃ q, e = q := ⟨_, rfl⟩
  rw [hq] at HPU HN HSX h0 h1 h2 h3 h4 h5 h6
  simp only at HPU h0 h1 h2 h3 h4 h5 h6
  obtain ⟨s2, hs2⟩ : ∃ s2, lookC s ⟨kd, at_, ⟨cl, tag, cons, ln⟩, b⟩ = s2 := ⟨_, rfl⟩
  rw [hs2] at HPU HN HSX
  have hin : (i : Int) < (n : Int) := by omega
  clear hq he hle hg ho hn hsx hlt hli hs2
  rcases s2 with _ | s3
  all_goals
   go_wp2_with (first
    | ((with_reducible refine gate_dst (N := 11) rfl ?_)
       refine sp_box hS rfl (N := 11) rfl #[.int .i64 0, .int .i64 0, .int .i64 0, .int .i64 0, .bool false, .int .i64 0, .int .u8 0] 39 zz10 ?_
       intro gx w3 hg3 hS)
    | ((with_reducible refine gate_store (t := 39) (p := 11) (v := .tmp 25) rfl ?_)
       refine sp_row hS 0 rfl 39 (.tmp 11) (.tmp 25) rfl rfl gx #[.int .i64 kd, .int .i64 at_, .int .i64 cl, .int .i64 tag, .bool cons, .int .i64 ln, .int .u8 b] rfl rfl 39 _ rfl zz8 rfl zz17 rfl ?_
       intro w4 hS
       obtain ⟨k0, k1, k2, k3, k4, k5, k6⟩ := hS.cells7 0
       replace hS := Sp.swap hS)
    | (go_at_call 14
       (with_reducible refine (HPU.out _ (hS.ft 1) (by exact hS.pre1)).mono ?_)
       rintro e w6 ⟨rfl, hq⟩
       replace hS := hS.post1 hq
       clear k0 k1 k2 k3 k4 k5 k6
       obtain ⟨k0, k1, k2, k3, k4, k5, k6⟩ := hS.cells7 1))
  ·
   go_region
   go_wp2
   go_ret2
   have h2 := HV.out
   have h3 := HN.out
   simp only [true_implies, forall_const] at h3
   rw [h3] at h2
   simp only [Option.elim, Prod.mk.injEq] at h2
   rw [h2.1, h2.2]
   exact ⟨rfl, Upd.trans (S := None0) (T := None0) hS0.u (Sp.u zz52) (fun _ h => False.elim h)⟩
  ·
   go_roundg (gk - 1)
   case measure => have := HI.out; have := HLT.out; omega
   case rel => exact ⟨i + 1, s3, zz29, ⟨by have := HLT.out; omega, by have := HI.out; have := HLT.out; omega, HSX.out s3 rfl⟩, ⟨Sp.sel (l2 := [ck g (some s3)]) hS.lt [0]⟩⟩
end Go.Proofs.Ytpfconocipmcjaa.Vp
namespace Go.Proofs.Ytpfconocipmcjaa.Vp
open RowKit PC YtpfconocipmcjaaW.PrintWords YtpfconocipmcjaaW.PrintLast YtpfconocipmcjaaW.PrintMore Own Sl
open Bs
set_option linter.unusedVariables false
set_option linter.unusedSimpArgs false
theorem v1 : wholeV (mn (mx 9 0) 64).toNat (bytesOf (⟨#[1, 1, 5]⟩ : ByteArray)) = (7, 2) := by decide +kernel
theorem v2 : wholeV (mn (mx 9 0) 64).toNat (bytesOf (⟨#[36, 0]⟩ : ByteArray)) = (7, 1) := by decide +kernel
theorem v3 : wholeV (mn (mx 9 0) 64).toNat (bytesOf (⟨#[48, 3, 2, 1, 5]⟩ : ByteArray)) = (0, 5) := by decide +kernel
theorem v4 : wholeV (mn (mx 9 0) 64).toNat (bytesOf (⟨#[16, 0]⟩ : ByteArray)) = (7, 1) := by decide +kernel
theorem whole_at (a : ByteArray) (d x y : Int) (h : wholeV (mn (mx d 0) 64).toNat (bytesOf a) = (x, y)) (hs : a.size ≤ 700) (w : World) :
 Calls Try.prog 9 #[.string a, .int .i64 d] w fun e w' => e = .returned (.tuple #[.int .i64 x, .int .i64 y]) ∧ Upd None0 w w' := by
 have := whole_any a d w hs
 rw [h] at this
 exact this
set_option maxHeartbeats 4000000 in
set_option maxRecDepth 100000 in
theorem awake_any (w : World) :
 Calls Try.prog 8 #[] w fun e w' => e = .returned (.bool true) ∧ Upd None0 w w' := by
 have hS := Sp.nil (w := w) (S := None0)
 have H1 := Aside0.mk (whole_at _ _ _ _ v1 zz13)
 have H2 := Aside0.mk (whole_at _ _ _ _ v2 zz13)
 have H3 := Aside0.mk (whole_at _ _ _ _ v3 zz13)
 have H4 := Aside0.mk (whole_at _ _ _ _ v4 zz13)
 go_enter Try.func8, Try.ntmps8
 go_wp2_with (first
  | (go_at_call 9
     first
     | ((with_reducible refine (H1.out _).mono ?_)
        rintro e w4 ⟨rfl, hun⟩
        replace hS := hS.toN hun)
     | ((with_reducible refine (H2.out _).mono ?_)
        rintro e w4 ⟨rfl, hun⟩
        replace hS := hS.toN hun)
     | ((with_reducible refine (H3.out _).mono ?_)
        rintro e w4 ⟨rfl, hun⟩
        replace hS := hS.toN hun)
     | ((with_reducible refine (H4.out _).mono ?_)
        rintro e w4 ⟨rfl, hun⟩
        replace hS := hS.toN hun)))
 go_ret
 exact ⟨rfl, hS.lt.u⟩
end Go.Proofs.Ytpfconocipmcjaa.Vp
namespace Go.Proofs.Ytpfconocipmcjaa.Vp
open RowKit PC YtpfconocipmcjaaW.PrintWords YtpfconocipmcjaaW.PrintLast YtpfconocipmcjaaW.PrintMore
open Bs
set_option linter.unusedVariables false
set_option linter.unusedSimpArgs false
def wrRun : Cs → List Int → Int → Int
 | _, [], _ => -1
 | s, b :: r, i => match pushC s b with
   | none => i
   | some s' => wrRun s' r (i + 1)
def wrC (tag n : Int) (l : List Int) : Int := match startC tag n with
 | none => 0
 | some s => wrRun s l 1
def takeB : List Ev → List Int
 | [] => []
 | e :: l => if e.f0 = 3 then e.f3 :: takeB l else []
def fv : Int → List Ev → Int
 | _, [] => -1
 | i, e :: l =>
   if e.f2.f0 ≠ 0 then fv (i + 1) l
   else if e.f0 = 1 ∧ e.f2.f1 ≠ 16 ∧ e.f2.f1 ≠ 17 then i
   else if e.f0 ≠ 2 then fv (i + 1) l
   else if e.f2.f1 = 0 ∨ e.f2.f1 = 16 ∨ e.f2.f1 = 17 then i
   else if 0 ≤ wrC e.f2.f1 e.f2.f3 (takeB l) then i + wrC e.f2.f1 e.f2.f3 (takeB l) else fv (i + 1) l
def bi : Cs → Int → List Ev → Int
 | _, _, [] => -1
 | s, i, e :: l => match lookC s e with
   | none => i
   | some s' => bi s' (i + 1) l
theorem look_3 {e : Ev} (h : e.f0 = 3) (s : Cs) : lookC s e = pushC s e.f3 := by unfold lookC; rw [if_pos h]
theorem look_1 {e : Ev} (h : e.f0 = 1) (hc : e.f2.f0 = 0) (s : Cs) : lookC s e = if e.f2.f1 = 16 ∨ e.f2.f1 = 17 then some s else none := by unfold lookC; rw [if_neg zz3, if_pos ⟨h, hc⟩]
theorem look_2 {e : Ev} (h : e.f0 = 2) (hc : e.f2.f0 = 0) (s : Cs) : lookC s e = startC e.f2.f1 e.f2.f3 := by unfold lookC; rw [if_neg zz3, if_neg (fun h1 => by omega), if_pos ⟨h, hc⟩]
theorem look_x {e : Ev} (h : e.f0 = 2) (hc : ¬ e.f2.f0 = 0) (s : Cs) : lookC s e = some .any := by unfold lookC; rw [if_neg zz3, if_neg (fun h1 => by omega), if_neg (fun h1 => hc h1.2), if_pos h]
theorem look_r {e : Ev} (h3 : ¬ e.f0 = 3) (h1 : ¬ (e.f0 = 1 ∧ e.f2.f0 = 0)) (h2 : ¬ e.f0 = 2) (s : Cs) : lookC s e = some s := by unfold lookC; rw [if_neg h3, if_neg h1, if_neg (fun h => h2 h.1), if_neg h2]
theorem bi_none {s : Cs} {e : Ev} (h : lookC s e = none) (i : Int) (l : List Ev) : bi s i (e :: l) = i := by rw [bi, h]
theorem bi_some {s s' : Cs} {e : Ev} (h : lookC s e = some s') (i : Int) (l : List Ev) : bi s i (e :: l) = bi s' (i + 1) l := by rw [bi, h]
theorem next_0 {e : Ev} (h3 : ¬ e.f0 = 3) (h2 : ¬ e.f0 = 2) (r : Int) : nextR r e = 0 := by unfold nextR; rw [if_neg h3, if_neg h2]
theorem bi_any : ∀ (l : List Ev) (s s' : Cs) (i : Int), WfL 0 l → bi s i l = bi s' i l
 | [], s, s', i, h => rfl
 | e :: l, s, s', i, h => by
   obtain ⟨ho, hl⟩ := h
   have h3 : ¬ e.f0 = 3 := fun h => by have := ho.2.1 h; omega
   by_cases h1 : e.f0 = 1 ∧ e.f2.f0 = 0
   ·
    have hn := next_0 h3 (fun h => by omega) 0
    rw [hn] at hl
    by_cases ht : e.f2.f1 = 16 ∨ e.f2.f1 = 17
    ·
     rw [bi_some ((look_1 h1.1 h1.2 s).trans (if_pos ht)), bi_some ((look_1 h1.1 h1.2 s').trans (if_pos ht))]
     exact bi_any l s s' (i + 1) hl
    ·
     rw [bi_none ((look_1 h1.1 h1.2 s).trans (if_neg ht)), bi_none ((look_1 h1.1 h1.2 s').trans (if_neg ht))]
   ·
    by_cases h2 : e.f0 = 2
    ·
     by_cases hc : e.f2.f0 = 0
     ·
      rw [bi, bi, look_2 h2 hc, look_2 h2 hc]
     ·
      rw [bi, bi, look_x h2 hc, look_x h2 hc]
    ·
     have hn := next_0 h3 h2 0
     rw [hn] at hl
     rw [bi_some (look_r h3 h1 h2 s), bi_some (look_r h3 h1 h2 s')]
     exact bi_any l s s' (i + 1) hl
theorem wrRun_pos : ∀ (l : List Int) (s : Cs) (i : Int), 0 < i → wrRun s l i = -1 ∨ i ≤ wrRun s l i
 | [], s, i, h => .inl rfl
 | b :: r, s, i, h => by
   unfold wrRun
   cases pushC s b with
   | none => exact .inr (Int.le_refl _)
   | some s' =>
     rcases wrRun_pos r s' (i + 1) zz3 with h1 | h1
     ·
      exact .inl h1
     ·
      exact .inr (by show i ≤ wrRun s' r (i + 1); omega)
theorem bi_bytes : ∀ (l : List Ev) (s : Cs) (r i j : Int), WfL r l → 0 < j → bi s (i + j) l = if 0 ≤ wrRun s (takeB l) j then i + wrRun s (takeB l) j else bi .any (i + j) l
 | [], s, r, i, j, h, hj => by simp [takeB, wrRun, bi]
 | e :: l, s, r, i, j, h, hj => by
   obtain ⟨ho, hl⟩ := h
   by_cases h3 : e.f0 = 3
   ·
    have hk : ∀ s, lookC s e = pushC s e.f3 := fun s => by unfold lookC; rw [if_pos h3]
    have ha : ∀ i l, bi .any i (e :: l) = bi .any (i + 1) l := fun i l => by rw [bi, hk]; rfl
    have ht : takeB (e :: l) = e.f3 :: takeB l := by rw [takeB, if_pos h3]
    have hb : bi s (i + j) (e :: l) = match pushC s e.f3 with | none => i + j | some s' => bi s' (i + j + 1) l := by rw [bi, hk]
    rw [ha, ht, hb, wrRun]
    cases hp : pushC s e.f3 with
    | none => simp only; rw [if_pos zz3]
    | some s' =>
      simp only
      have ih := bi_bytes l s' _ i (j + 1) hl zz3
      rw [← Int.add_assoc] at ih
      exact ih
   ·
    have ht : takeB (e :: l) = [] := by rw [takeB, if_neg h3]
    rw [ht, wrRun, if_neg zz13]
    have h0 := ho.2.2.1 h3
    subst h0
    exact bi_any (e :: l) s .any (i + j) ⟨ho, hl⟩
theorem fv_bi : ∀ (l : List Ev) (r i : Int), WfL r l → fv i l = bi .any i l
 | [], r, i, h => rfl
 | e :: l, r, i, h => by
   obtain ⟨ho, hl⟩ := h
   have ih := fv_bi l _ (i + 1) hl
   by_cases hc : e.f2.f0 = 0
   ·
    have f0 : ¬ (e.f2.f0 ≠ 0) := fun h => h hc
    by_cases h1 : e.f0 = 1
    ·
     by_cases ht : e.f2.f1 = 16 ∨ e.f2.f1 = 17
     ·
      rw [bi_some ((look_1 h1 hc .any).trans (if_pos ht)), fv, if_neg f0, if_neg (fun h => by omega), if_pos zz3]
      exact ih
     ·
      rw [bi_none ((look_1 h1 hc .any).trans (if_neg ht)), fv, if_neg f0, if_pos ⟨h1, fun h => ht (.inl h), fun h => ht (.inr h)⟩]
    ·
     by_cases h2 : e.f0 = 2
     ·
      rw [fv, if_neg f0, if_neg (fun h => h1 h.1), if_neg (fun h => h h2)]
      by_cases h0 : e.f2.f1 = 0 ∨ e.f2.f1 = 16 ∨ e.f2.f1 = 17
      ·
       rw [if_pos h0, bi_none ((look_2 h2 hc .any).trans (by unfold startC; rw [if_pos h0]))]
      ·
       rw [if_neg h0, wrC]
       cases hs : startC e.f2.f1 e.f2.f3 with
       | none =>
         rw [bi_none ((look_2 h2 hc .any).trans hs)]
         simp
       | some s =>
         rw [bi_some ((look_2 h2 hc .any).trans hs), bi_bytes l s _ i 1 hl zz13]
         simp only
         split
         ·
          rfl
         ·
          exact ih
     ·
      rw [fv, if_neg f0, if_neg (fun h => h1 h.1), if_pos h2]
      by_cases h3 : e.f0 = 3
      ·
       rw [bi_some (look_3 h3 .any)]; exact ih
      ·
       rw [bi_some (look_r h3 (fun h => h1 h.1) h2 .any)]; exact ih
   ·
    rw [fv, if_pos hc]
    by_cases h3 : e.f0 = 3
    ·
     rw [bi_some (look_3 h3 .any)]; exact ih
    ·
     by_cases h2 : e.f0 = 2
     ·
      rw [bi_some (look_x h2 hc .any)]; exact ih
     ·
      rw [bi_some (look_r h3 (fun h => hc h.2) h2 .any)]; exact ih
end Go.Proofs.Ytpfconocipmcjaa.Vp
