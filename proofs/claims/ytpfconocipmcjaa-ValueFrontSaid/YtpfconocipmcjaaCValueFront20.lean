/- The row of ValueFront: for every input the law returns true; no condition. Made small by a program of this session (pack.py). -/
import Derived.Below
import Derived.ChangeOld
import Derived.Lib.SmallJoins
import Derived.OpenShut
import Derived.ProofKit
import Derived.ShutString
import Derived.SizedLaws
import Derived.Test.YtpfconocipmcjaaRows
import Derived.WalkKit
import Derived.Test.YtpfconocipmcjaaCValueFront2
import Derived.Test.YtpfconocipmcjaaCValueFront19
namespace Go.Proofs.Ytpfconocipmcjaa.Vp
open Go.RowKit Go.Proofs.Ytpfconocipmcjaa.PC Go.Proofs.YtpfconocipmcjaaW.PrintWords Go.Proofs.YtpfconocipmcjaaW.PrintLast Go.Proofs.YtpfconocipmcjaaW.PrintMore Go.Proofs.Ytpfconocipmcjaa.Own Go.Proofs.Ytpfconocipmcjaa.Sl
open Go.Proofs.Ytpfconocipmcjaa.Bs
set_option linter.unusedVariables false
set_option linter.unusedSimpArgs false
theorem fn_nx {s : Cs} {v : Value} {w : World} {T : Nat → Prop} (h : (nx (some s) v).P w T) : ∃ fn cap, v = .func fn #[] cap := by
 cases s with
 | any => exact ⟨_, _, h⟩
 | num _ _ _ _ => obtain ⟨g2, hv⟩ := shape_num h; exact ⟨_, _, hv⟩
 | oid _ _ => obtain ⟨g2, hv⟩ := shape_oid h; exact ⟨_, _, hv⟩
 | bit _ _ _ => obtain ⟨g2, hv⟩ := shape_bit h; exact ⟨_, _, hv⟩
 | whn _ _ _ => obtain ⟨g2, hv⟩ := shape_whn h; exact ⟨_, _, hv⟩
 | txt _ _ _ _ _ => obtain ⟨g2, hv⟩ := shape_txt h; exact ⟨_, _, hv⟩
set_option maxHeartbeats 4000000 in
set_option maxRecDepth 100000 in
theorem look_byte_any (g : Nat) (at_ cl tag : Int) (cons : Bool) (ln b : Int) (w : World) (S : Nat → Prop) (h : Hs w S [ck g (some .any)]) :
 Calls Try.prog 20 #[.pointer (some ⟨g, 0, none⟩), .agg #[.int .i64 3, .int .i64 at_, .int .i64 cl, .int .i64 tag, .bool cons, .int .i64 ln, .int .u8 b]] w fun e w' => e = .returned (.bool (pushC .any b).isSome) ∧ Sp w S [lk g (pushC .any b)] w' := by
 obtain ⟨v, hS⟩ := ck_open h
 have hu := Try.underlying39
 have hu2 := Try.underlying50
 have hv : v = .func (.func 17) #[] #[] := hS.h.get 1 _ rfl
 subst hv
 have HC := Aside0.mk (fun W => any_any b W)
 clear h
 go_enter Try.func20, Try.ntmps20
 go_upto_region 2 with (first
  | ((with_reducible refine gate_dst (N := 3) rfl ?_)
     refine sp_box hS rfl (N := 3) rfl _ 39 zz34 ?_
     intro ge w1 hge hS
     obtain ⟨e0, e1, e2, e3, e4, e5, e6⟩ := hS.cells7 0
     obtain ⟨k0, k1⟩ := hS.cells2 1
     have kf := hS.fz 1))
 go_region_with (first
  | (go_at_call 17
     (with_reducible refine (HC.out _).mono ?_)
     rintro e w3 ⟨rfl, hw⟩
     replace hS := hS.toN (w2 := w3) (show Upd None0 w1.drew w3 by rw [hw]; exact Upd.refl _ _)
     clear e0 e1 e2 e3 e4 e5 e6 k0 k1 kf hw
     obtain ⟨k0, k1⟩ := hS.cells2 1
     have kf := hS.fz 1))
 all_goals
  go_wp2
  go_ret
  exact ⟨rfl, lk_shut (s := some .any) (Sp.sel (l2 := [blk g #[.func (.func 17) #[] #[], .bool false] 50, kx (some .any) _]) ((hS.set_ 1 0 _).lt) [1, 2])⟩
set_option maxHeartbeats 4000000 in
set_option maxRecDepth 100000 in
theorem look_enter (g : Nat) (s : Cs) (at_ cl tag : Int) (cons : Bool) (ln b : Int) (hc : cl = 0) (w : World) (S : Nat → Prop) (h : Hs w S [ck g (some s)]) :
 Calls Try.prog 20 #[.pointer (some ⟨g, 0, none⟩), .agg #[.int .i64 1, .int .i64 at_, .int .i64 cl, .int .i64 tag, .bool cons, .int .i64 ln, .int .u8 b]] w fun e w' => e = .returned (.bool ((if tag = 16 ∨ tag = 17 then some s else none)).isSome) ∧ Sp w S [lk g ((if tag = 16 ∨ tag = 17 then some s else none))] w' := by
 obtain ⟨v, hS⟩ := ck_open h
 have hu := Try.underlying39
 have hu2 := Try.underlying50
 subst hc
 clear h
 have key : ∀ x : Option Cs, (x = some s ∨ x = none) → ∀ w', Sp w S [blk g #[v, .bool false] 50, kx (some s) v] w' → Sp w S [lk g x] w' := by
  intro x hx w' h
  rcases hx with rfl | rfl
  ·
   exact lk_shut h
  ·
   exact lk_none (h.sel [0])
 by_cases h1 : tag = 16
 ·
  subst h1
  go_enter Try.func20, Try.ntmps20
  go_wp2_with (first
   | ((with_reducible refine gate_dst (N := 3) rfl ?_)
      refine sp_box hS rfl (N := 3) rfl _ 39 zz34 ?_
      intro ge w1 hge hS
      obtain ⟨e0, e1, e2, e3, e4, e5, e6⟩ := hS.cells7 0
      obtain ⟨k0, k1⟩ := hS.cells2 1
      have kf := hS.fz 1))
  go_ret
  exact ⟨rfl, key (some s) (.inl rfl) _ (Sp.sel (l2 := [blk g #[v, .bool false] 50, kx (some s) v]) hS.lt [1, 2])⟩
 by_cases h2 : tag = 17
 ·
  subst h2
  go_enter Try.func20, Try.ntmps20
  go_wp2_with (first
   | ((with_reducible refine gate_dst (N := 3) rfl ?_)
      refine sp_box hS rfl (N := 3) rfl _ 39 zz34 ?_
      intro ge w1 hge hS
      obtain ⟨e0, e1, e2, e3, e4, e5, e6⟩ := hS.cells7 0
      obtain ⟨k0, k1⟩ := hS.cells2 1
      have kf := hS.fz 1))
  go_ret
  exact ⟨rfl, key (some s) (.inl rfl) _ (Sp.sel (l2 := [blk g #[v, .bool false] 50, kx (some s) v]) hS.lt [1, 2])⟩
 ·
  have d1 : (tag == 16) = false := by simpa using h1
  have d2 : (tag == 17) = false := by simpa using h2
  have hn : (if tag = 16 ∨ tag = 17 then some s else none) = none := if_neg (fun h => h.elim h1 h2)
  go_enter Try.func20, Try.ntmps20
  go_wp2_with (first
   | ((with_reducible refine gate_dst (N := 3) rfl ?_)
      refine sp_box hS rfl (N := 3) rfl _ 39 zz34 ?_
      intro ge w1 hge hS
      obtain ⟨e0, e1, e2, e3, e4, e5, e6⟩ := hS.cells7 0
      obtain ⟨k0, k1⟩ := hS.cells2 1
      have kf := hS.fz 1))
  go_ret
  (try rw [hn])
  exact ⟨rfl, key none (.inr rfl) _ (Sp.sel (l2 := [blk g #[v, .bool false] 50, kx (some s) v]) hS.lt [1, 2])⟩
set_option maxHeartbeats 4000000 in
set_option maxRecDepth 100000 in
theorem look_leaf0 (g : Nat) (s : Cs) (at_ cl tag : Int) (cons : Bool) (ln b : Int) (hc : cl = 0) (w : World) (S : Nat → Prop) (h : Hs w S [ck g (some s)]) :
 Calls Try.prog 20 #[.pointer (some ⟨g, 0, none⟩), .agg #[.int .i64 2, .int .i64 at_, .int .i64 cl, .int .i64 tag, .bool cons, .int .i64 ln, .int .u8 b]] w fun e w' => e = .returned (.bool (startC tag ln).isSome) ∧ Sp w S [lk g (startC tag ln)] w' := by
 obtain ⟨v, hS⟩ := ck_open h
 have hu := Try.underlying39
 have hu2 := Try.underlying50
 subst hc
 clear h
 obtain ⟨s2, hs2⟩ : ∃ s2, startC tag ln = s2 := ⟨_, rfl⟩
 have HST := Aside0.mk (fun W => start_any 0 tag ln cons W)
 rw [hs2] at HST ⊢
 clear hs2
 rcases s2 with _ | s3
 ·
  go_enter Try.func20, Try.ntmps20
  go_wp2_with (first
   | ((with_reducible refine gate_dst (N := 3) rfl ?_)
      refine sp_box hS rfl (N := 3) rfl _ 39 zz34 ?_
      intro ge w1 hge hS
      obtain ⟨e0, e1, e2, e3, e4, e5, e6⟩ := hS.cells7 0
      obtain ⟨k0, k1⟩ := hS.cells2 1
      have kf := hS.fz 1)
   | (go_at_call 34
      (with_reducible refine (HST.out _).mono ?_)
      rintro e w3 ⟨v2, rfl, hq⟩
      replace hS := hS.post0 (hq.mo (fun _ h => h.elim))
      have hv2 : v2 = .nilFunc := hS.h.get 0 _ rfl
      subst hv2
      clear e0 e1 e2 e3 e4 e5 e6 k0 k1 kf
      obtain ⟨k0, k1⟩ := hS.cells2 2
      have kf := hS.fz 2))
  go_ret
  exact ⟨rfl, lk_none (Sp.sel (l2 := [blk g #[.nilFunc, .bool false] 50]) ((hS.set_ 2 0 _).lt) [2])⟩
 ·
  go_enter Try.func20, Try.ntmps20
  go_wp2_with (first
   | ((with_reducible refine gate_dst (N := 3) rfl ?_)
      refine sp_box hS rfl (N := 3) rfl _ 39 zz34 ?_
      intro ge w1 hge hS
      obtain ⟨e0, e1, e2, e3, e4, e5, e6⟩ := hS.cells7 0
      obtain ⟨k0, k1⟩ := hS.cells2 1
      have kf := hS.fz 1)
   | (go_at_call 34
      (with_reducible refine (HST.out _).mono ?_)
      rintro e w3 ⟨v2, rfl, hq⟩
      replace hS := hS.post0 (hq.mo (fun _ h => h.elim))
      obtain ⟨fn, cap, hv2⟩ := fn_nx (hS.h.get 0 _ rfl)
      subst hv2
      clear e0 e1 e2 e3 e4 e5 e6 k0 k1 kf
      obtain ⟨k0, k1⟩ := hS.cells2 2
      have kf := hS.fz 2))
  go_ret
  exact ⟨rfl, lk_shut (s := some s3) (Sp.sel (l2 := [blk g #[.func fn #[] cap, .bool false] 50, kx (some s3) _]) ((hS.set_ 2 0 _).lt) [2, 0])⟩
set_option maxHeartbeats 4000000 in
set_option maxRecDepth 100000 in
theorem look_leafx (g : Nat) (s : Cs) (at_ cl tag : Int) (cons : Bool) (ln b : Int) (hc : ¬ cl = 0) (w : World) (S : Nat → Prop) (h : Hs w S [ck g (some s)]) :
 Calls Try.prog 20 #[.pointer (some ⟨g, 0, none⟩), .agg #[.int .i64 2, .int .i64 at_, .int .i64 cl, .int .i64 tag, .bool cons, .int .i64 ln, .int .u8 b]] w fun e w' => e = .returned (.bool (some Cs.any).isSome) ∧ Sp w S [lk g (some Cs.any)] w' := by
 obtain ⟨v, hS⟩ := ck_open h
 have hu := Try.underlying39
 have hu2 := Try.underlying50
 have d1 : (cl == 0) = false := by simpa using hc
 clear h
 go_enter Try.func20, Try.ntmps20
 go_wp2_with (first
  | ((with_reducible refine gate_dst (N := 3) rfl ?_)
     refine sp_box hS rfl (N := 3) rfl _ 39 zz34 ?_
     intro ge w1 hge hS
     obtain ⟨e0, e1, e2, e3, e4, e5, e6⟩ := hS.cells7 0
     obtain ⟨k0, k1⟩ := hS.cells2 1
     have kf := hS.fz 1)
  | ((with_reducible refine gate_store (t := 48) (p := 69) (v := .func 17) rfl ?_)
     refine sp_cell hS 1 rfl 48 (.tmp 69) (.func 17) rfl rfl g 0 (.func (.func 17) #[] #[]) rfl rfl 50 _ _ rfl zz23 zz40 rfl rfl rfl ?_
     intro w4 hS))
 go_ret
 exact ⟨rfl, lk_shut (s := some .any) (v := .func (.func 17) #[] #[]) ((Sp.more (Sp.sel (l2 := [blk g #[.func (.func 17) #[] #[], .bool false] 50]) ((hS.set_ 1 0 _).lt) [1]) (a := kx (some .any) (.func (.func 17) #[] #[])) (Upd.refl _ _) rfl).swap)⟩
set_option maxHeartbeats 4000000 in
set_option maxRecDepth 100000 in
theorem look_rest (g : Nat) (s : Cs) (kd at_ cl tag : Int) (cons : Bool) (ln b : Int) (h3 : ¬ kd = 3) (h2 : ¬ kd = 2) (h1 : ¬ (kd = 1 ∧ cl = 0)) (w : World) (S : Nat → Prop) (h : Hs w S [ck g (some s)]) :
 Calls Try.prog 20 #[.pointer (some ⟨g, 0, none⟩), .agg #[.int .i64 kd, .int .i64 at_, .int .i64 cl, .int .i64 tag, .bool cons, .int .i64 ln, .int .u8 b]] w fun e w' => e = .returned (.bool (some s).isSome) ∧ Sp w S [lk g (some s)] w' := by
 obtain ⟨v, hS⟩ := ck_open h
 have hu := Try.underlying39
 have hu2 := Try.underlying50
 have d3 : (kd == 3) = false := by simpa using h3
 have d2 : (kd == 2) = false := by simpa using h2
 clear h
 by_cases hk : kd = 1
 ·
  subst hk
  have hc : ¬ cl = 0 := fun h => h1 ⟨rfl, h⟩
  have d1 : (cl == 0) = false := by simpa using hc
  go_enter Try.func20, Try.ntmps20
  go_wp2_with (first
   | ((with_reducible refine gate_dst (N := 3) rfl ?_)
      refine sp_box hS rfl (N := 3) rfl _ 39 zz34 ?_
      intro ge w1 hge hS
      obtain ⟨e0, e1, e2, e3, e4, e5, e6⟩ := hS.cells7 0
      obtain ⟨k0, k1⟩ := hS.cells2 1
      have kf := hS.fz 1))
  go_ret
  exact ⟨rfl, lk_shut (s := some s) (Sp.sel (l2 := [blk g #[v, .bool false] 50, kx (some s) v]) hS.lt [1, 2])⟩
 ·
  have d1 : (kd == 1) = false := by simpa using hk
  go_enter Try.func20, Try.ntmps20
  go_wp2_with (first
   | ((with_reducible refine gate_dst (N := 3) rfl ?_)
      refine sp_box hS rfl (N := 3) rfl _ 39 zz34 ?_
      intro ge w1 hge hS
      obtain ⟨e0, e1, e2, e3, e4, e5, e6⟩ := hS.cells7 0
      obtain ⟨k0, k1⟩ := hS.cells2 1
      have kf := hS.fz 1))
  go_ret
  exact ⟨rfl, lk_shut (s := some s) (Sp.sel (l2 := [blk g #[v, .bool false] 50, kx (some s) v]) hS.lt [1, 2])⟩
set_option maxRecDepth 100000 in
theorem look_ev (g : Nat) (s : Cs) (e : Ev) (r : Int) (hg : Good s r) (ho : okR r e) (w : World) (S : Nat → Prop) (h : Hs w S [ck g (some s)]) :
 Calls Try.prog 20 #[.pointer (some ⟨g, 0, none⟩), .agg #[.int .i64 e.f0, .int .i64 e.f1, .int .i64 e.f2.f0, .int .i64 e.f2.f1, .bool e.f2.f2, .int .i64 e.f2.f3, .int .u8 e.f3]] w fun e' w' => e' = .returned (.bool (lookC s e).isSome) ∧ Sp w S [lk g (lookC s e)] w' := by
 obtain ⟨kd, at_, ⟨cl, tag, cons, ln⟩, b⟩ := e
 obtain ⟨o1, o2, o3, o4⟩ := ho
 simp only at o1 o2 o3 o4 ⊢
 by_cases h3 : kd = 3
 ·
  subst h3
  have e1 : lookC s ⟨3, at_, ⟨cl, tag, cons, ln⟩, b⟩ = pushC s b := by unfold lookC; rw [if_pos rfl]
  rw [e1]
  have z2 := o2 rfl
  clear e1 o2 o3 o4
  cases s with
  | any => exact look_byte_any g at_ cl tag cons ln b w S h
  | num t n a f => exact look_byte_num g t n a f at_ cl tag cons ln b r hg z2 o1 w S h
  | oid l wi => exact look_byte_oid g l wi at_ cl tag cons ln b r hg z2 o1 w S h
  | bit l bg u => exact look_byte_bit g l bg u at_ cl tag cons ln b r hg z2 o1 w S h
  | whn u D l => exact look_byte_whn g u D l at_ cl tag cons ln b r hg z2 o1 w S h
  | txt t l m lo hi => exact look_byte_txt g t l m lo hi at_ cl tag cons ln b r hg z2 o1 w S h
 by_cases h1 : kd = 1 ∧ cl = 0
 ·
  obtain ⟨rfl, hc⟩ := h1
  have e1 : lookC s ⟨1, at_, ⟨cl, tag, cons, ln⟩, b⟩ = if tag = 16 ∨ tag = 17 then some s else none := by unfold lookC; rw [if_neg (by show ¬ (1 : Int) = 3; decide), if_pos ⟨rfl, hc⟩]
  rw [e1]
  exact look_enter g s at_ cl tag cons ln b hc w S h
 by_cases h2 : kd = 2
 ·
  subst h2
  by_cases hc : cl = 0
  ·
   have e1 : lookC s ⟨2, at_, ⟨cl, tag, cons, ln⟩, b⟩ = startC tag ln := by unfold lookC; rw [if_neg (by show ¬ (2 : Int) = 3; decide), if_neg (fun h => absurd (show (2 : Int) = 1 from h.1) zz40), if_pos ⟨rfl, hc⟩]
   rw [e1]
   exact look_leaf0 g s at_ cl tag cons ln b hc w S h
  ·
   have e1 : lookC s ⟨2, at_, ⟨cl, tag, cons, ln⟩, b⟩ = some .any := by unfold lookC; rw [if_neg (by show ¬ (2 : Int) = 3; decide), if_neg (fun h => absurd (show (2 : Int) = 1 from h.1) zz40), if_neg (fun h => hc h.2), if_pos rfl]
   rw [e1]
   exact look_leafx g s at_ cl tag cons ln b hc w S h
 ·
  have e1 : lookC s ⟨kd, at_, ⟨cl, tag, cons, ln⟩, b⟩ = some s := by unfold lookC; rw [if_neg h3, if_neg h1, if_neg (fun h => h2 h.1), if_neg h2]
  rw [e1]
  exact look_rest g s kd at_ cl tag cons ln b h3 h2 h1 w S h
set_option maxHeartbeats 4000000 in
set_option maxRecDepth 100000 in
theorem new_ck (w : World) : Calls Try.prog 11 #[] w fun e w' => ∃ g : Nat, e = .returned (.pointer (some ⟨g, 0, none⟩)) ∧ Sp w None0 [ck g (some .any)] w' := by
 have hS := Sp.nil (w := w) (S := None0)
 have hu := Try.underlying50
 go_enter Try.func11, Try.ntmps11
 go_wp2_with (first
  | ((with_reducible refine gate_dst (N := 2) rfl ?_)
     refine sp_box hS rfl (N := 2) rfl #[.func (.func 17) #[] #[], .bool false] 50 zz34 ?_
     intro g w1 hg hS))
 go_ret
 exact ⟨g, rfl, ck_shut (s := some .any) ((Sp.more (show Sp w None0 _ _ from hS.lt) (a := kx (some .any) (.func (.func 17) #[] #[])) (Upd.refl _ _) rfl).swap)⟩
set_option maxHeartbeats 4000000 in
set_option maxRecDepth 100000 in
theorem push_ev (g : Nat) (s : Cs) (e : Ev) (r : Int) (hg : Good s r) (ho : okR r e) (w : World) (S : Nat → Prop) (h : Hs w S [ck g (some s)]) :
 Calls Try.prog 14 #[.pointer (some ⟨g, 0, none⟩), .agg #[.int .i64 e.f0, .int .i64 e.f1, .int .i64 e.f2.f0, .int .i64 e.f2.f1, .bool e.f2.f2, .int .i64 e.f2.f3, .int .u8 e.f3]] w fun e' w' => e' = .returned (.int .i64 (if (lookC s e).isSome then 0 else 7)) ∧ Sp w S [ck g (lookC s e)] w' := by
 obtain ⟨v, hS⟩ := ck_open h
 have hu := Try.underlying39
 have hu2 := Try.underlying50
 have HL := Aside0.mk (fun W S' h => look_ev g s e r hg ho W S' h)
 obtain ⟨s2, hs2⟩ : ∃ s2, lookC s e = s2 := ⟨_, rfl⟩
 rw [hs2] at HL ⊢
 obtain ⟨⟨kd, at_, ⟨cl, tag, cons, n⟩, b⟩, he⟩ : ∃ q, e = q := ⟨_, rfl⟩
 rw [he] at HL ⊢
 simp only at HL ⊢
 clear h hg ho hs2 he
 have KC : ∀ {w' : World} {T : Nat → Prop} {l : List Ast}, Sp w T (blk g #[v, .bool false] 50 :: kx (some s) v :: l) w' → Sp w T (ck g (some s) :: l) w' := fun h => Sp.exI v (Sp.fold [_, _] h)
 rcases s2 with _ | s3
 all_goals
  go_enter Try.func14, Try.ntmps14
  go_upto_if 9 with (first
   | ((with_reducible refine gate_dst (N := 3) rfl ?_)
      refine sp_box hS rfl (N := 3) rfl _ 39 zz34 ?_
      intro ge w1 hge hS
      obtain ⟨k0, k1⟩ := hS.cells2 1
      obtain ⟨e0, e1, e2, e3, e4, e5, e6⟩ := hS.cells7 0))
  replace hS := KC (Sp.sel (l2 := [blk g #[v, .bool false] 50, kx (some s) v]) hS [1, 2])
  go_wp2_with (first
   | (go_at_call 20
      (with_reducible refine (HL.out _ (hS.ft 1) (by exact hS.pre1)).mono ?_)
      rintro e w3 ⟨rfl, hq⟩
      replace hS := hS.post1 hq
      obtain ⟨v3, hS⟩ := Sp.ex0 hS
      replace hS := hS.flat
      clear e0 e1 e2 e3 e4 e5 e6 k0 k1
      obtain ⟨k0, k1⟩ := hS.cells2 0
      have kf := hS.fz 0))
  go_ret
 ·
  exact ⟨rfl, ck_none (v := v3) (Sp.sel (l2 := [blk g #[v3, .bool true] 50]) ((hS.set_ 0 1 _).lt) [0])⟩
 ·
  exact ⟨rfl, ck_shut (s := some s3) (v := v3) (Sp.sel (l2 := [blk g #[v3, .bool false] 50, kx (some s3) v3]) ((hS.set_ 0 1 _).lt) [0, 1])⟩
end Go.Proofs.Ytpfconocipmcjaa.Vp
namespace Go.Proofs.Ytpfconocipmcjaa.Vp
open Go.RowKit Go.Proofs.YtpfconocipmcjaaW.PrintWords Go.Proofs.Ytpfconocipmcjaa.Own
theorem up_cell {w W : World} (hu : Upd None0 w W) {a : Addr} {v : Value} (h : w.cell? a = some v) : W.cell? a = some v := (hu.below0.cell (block_lt_of_cell h)).trans h
end Go.Proofs.Ytpfconocipmcjaa.Vp
namespace Go.Proofs.Ytpfconocipmcjaa.Vp
open Go.RowKit Go.Proofs.Ytpfconocipmcjaa.PC Go.Proofs.YtpfconocipmcjaaW.PrintWords Go.Proofs.YtpfconocipmcjaaW.PrintLast Go.Proofs.YtpfconocipmcjaaW.PrintMore Go.Proofs.Ytpfconocipmcjaa.Own Go.Proofs.Ytpfconocipmcjaa.Sl
open Go.Proofs.Ytpfconocipmcjaa.Bs
set_option linter.unusedVariables false
set_option linter.unusedSimpArgs false
theorem mostOf_le (d : Int) : (mn (mx d 0) 64).toNat ≤ 64 := by unfold mn mx; split <;> split <;> omega
theorem evs_len (d : Int) (l : List Int) (hl : Idm.Bytes l) : (wholeM (mn (mx d 0) 64).toNat l).1.length ≤ l.length * 67 := by
 have hm := mostOf_le d
 obtain ⟨most, he⟩ : ∃ m, (mn (mx d 0) 64).toNat = m := ⟨_, rfl⟩
 rw [he] at hm ⊢
 have h3 : l.length * (most + 3) ≤ l.length * 67 := Nat.mul_le_mul_left _ zz18
 unfold wholeM
 rcases run_split most l [] init0 0 [] hl (inv0 most) with ⟨s', xs, a1, a2, a3, a4, a5⟩ | ⟨xs, e2, j, a1, a2, a3, a4, a5, a6, a7⟩
 ·
  rw [show ((0 : Nat) : Int) = 0 from rfl] at a4
  rw [a4, List.nil_append]
  exact Nat.le_trans a3 h3
 ·
  rw [show ((0 : Nat) : Int) = 0 from rfl] at a6
  rw [a6, List.nil_append]
  exact Nat.le_trans a5 h3
theorem evs_wf (most : Nat) (l : List Int) (hl : Idm.Bytes l) : WfL 0 (wholeM most l).1 := by
 obtain ⟨xs, h1, h2⟩ := run_wf most l init0 0 [] hl (inv0 most)
 unfold wholeM
 rw [show (0 : Int) = ((0 : Nat) : Int) from rfl, h1, List.nil_append]
 exact h2
def Left (l : List Ev) (i : Nat) (s : Cs) : Prop := (∃ r, Good s r ∧ WfL r (l.drop i)) ∧ badE s (l.drop i) = badE .any l
theorem left0 {l : List Ev} (h : WfL 0 l) : Left l 0 .any := ⟨⟨0, trivial, h⟩, rfl⟩
theorem left_step {l : List Ev} {i : Nat} {s : Cs} (h : Left l i s) {e : Ev} (he : l[i]? = some e) :
 (∃ r, Good s r ∧ okR r e) ∧ (lookC s e = none → badE .any l = some e) ∧ ∀ s', lookC s e = some s' → Left l (i + 1) s' := by
 obtain ⟨hi, he2⟩ := List.getElem?_eq_some_iff.1 he
 have hd : l.drop i = e :: l.drop (i + 1) := by rw [List.drop_eq_getElem_cons hi, he2]
 obtain ⟨⟨r, h1, h2⟩, h3⟩ := h
 rw [hd] at h2 h3
 refine ⟨⟨r, h1, h2.1⟩, fun hn => ?_, fun s' hs => ⟨⟨_, good_look h1 h2.1 hs, h2.2⟩, ?_⟩⟩
 ·
  rw [← h3]; unfold badE; rw [hn]
 ·
  rw [← h3]; conv => rhs; unfold badE
  rw [hs]
theorem left_end {l : List Ev} {i : Nat} {s : Cs} (h : Left l i s) (hi : l.length ≤ i) : badE .any l = none := by
 rw [← h.2, List.drop_eq_nil_of_le hi]; rfl
set_option maxHeartbeats 4000000 in
set_option maxRecDepth 100000 in
theorem whole_any (a : ByteArray) (d : Int) (w : World) (hs : a.size ≤ 700) :
 Calls Try.prog 9 #[.string a, .int .i64 d] w fun e w' => e = .returned (.tuple #[.int .i64 (wholeV (mn (mx d 0) 64).toNat (bytesOf a)).1, .int .i64 (wholeV (mn (mx d 0) 64).toNat (bytesOf a)).2]) ∧ Upd None0 w w' := by
 have hby : Idm.Bytes (bytesOf a) := bytes_of a
 have hlen := evs_len d (bytesOf a) hby
 have hwf := evs_wf (mn (mx d 0) 64).toNat (bytesOf a) hby
 rw [bytesOf_length] at hlen
 obtain ⟨⟨l, me, mat⟩, hw⟩ : ∃ q, wholeM (mn (mx d 0) 64).toNat (bytesOf a) = q := ⟨_, rfl⟩
 have HEV := Aside0.mk (event_Whole.calls a d l me mat w (by unfold event_Whole.f; rw [if_pos hs, hw]))
 rw [hw] at hlen hwf
 simp only at hlen hwf
 have HV := Aside0.mk (show wholeV (mn (mx d 0) 64).toNat (bytesOf a) = (badE .any l).elim (me, mat) (fun e => (7, e.f1)) by unfold wholeV; simp only [hw]; cases badE .any l <;> rfl)
 obtain ⟨⟨ve, vat⟩, hv⟩ : ∃ q, wholeV (mn (mx d 0) 64).toNat (bytesOf a) = q := ⟨_, rfl⟩
 rw [hv] at HV ⊢
 simp only
 have HL := Aside0.mk (show l.length ≤ 50000 by omega)
 have HWF := Aside0.mk hwf
 have hu := Try.underlying39
 have hS0 := Sp.nil (w := w) (S := None0)
 clear hby hlen hwf hw hv hs
 go_enter Try.func9, Try.ntmps9
 go_wp2_with (first
  | (go_at_call 15
     (with_reducible refine HEV.out.mono ?_)
     rintro e w1 ⟨v0, rfl, hR, hb⟩
     obtain ⟨A, c, rfl⟩ := Kd.R_slice hR
     have HC := Aside0.mk (Kd.R_reads' hR).2.2
     replace hS0 := hS0.toN (Upd.of_below hb : Upd None0 _ w1)
     clear hR hb)
  | (go_at_call 11
     (with_reducible refine (new_ck _).mono ?_)
     rintro e w2 ⟨g, rfl, hS⟩))
 obtain ⟨n, hln⟩ : ∃ n, l.length = n := ⟨_, rfl⟩
 have HLN := Aside0.mk hln
 rw [hln] at HC HL ⊢
 clear hln HEV
 go_loopg [22] n (fun gk v22 wr => ∃ (i : Nat) (s : Cs), v22 = .int .i64 (i : Int) ∧ Aside0 (i ≤ n ∧ n - i ≤ gk ∧ Left l i s) ∧ Aside0 (Sp w1 None0 [ck g (some s)] wr))
 case atStart => exact ⟨0, .any, rfl, ⟨Nat.zero_le _, zz18, left0 HWF.out⟩, ⟨hS⟩⟩
 case round =>
  clear hS
  obtain ⟨i, s, rfl, HI, HS⟩ := hrel
  have hS := HS.out
  clear HS
  have hi0 : (0 : Int) ≤ (i : Int) := by omega
  have hi1 : (i : Int) ≤ 50000 := by have := HI.out; have := HL.out; omega
  by_cases hlt : i < n
  case neg =>
   have hd : decide (i < n) = false := decide_eq_false hlt
   have HE := Aside0.mk (show me = ve ∧ mat = vat by
    have h1 := left_end HI.out.2.2 (by have := HLN.out; omega)
    have h2 := HV.out
    rw [h1] at h2
    simp only [Option.elim, Prod.mk.injEq] at h2
    exact ⟨h2.1.symm, h2.2.symm⟩)
   clear hlt HI
   go_wp2
   go_ret2
   rw [HE.out.1, HE.out.2]
   exact ⟨rfl, hS0.u.trans hS.u (fun _ h => h.elim)⟩
  have hd : decide (i < n) = true := decide_eq_true hlt
  have hli : i < l.length := by rw [HLN.out]; exact hlt
  obtain ⟨ad, rfl, h0, h1, h2, h3, h4, h5, h6⟩ := at_T39 HC.out (i : Int) hi0 zz18
  replace h0 := up_cell hS.u h0
  replace h1 := up_cell hS.u h1
  replace h2 := up_cell hS.u h2
  replace h3 := up_cell hS.u h3
  replace h4 := up_cell hS.u h4
  replace h5 := up_cell hS.u h5
  replace h6 := up_cell hS.u h6
  rw [Int.toNat_natCast] at h0 h1 h2 h3 h4 h5 h6
  obtain ⟨e, he⟩ : ∃ e, rd_T39 l (i : Int) = e := ⟨_, rfl⟩
  have hle : l[i]? = some e := by rw [← he, rd_drop l i hli]; exact List.getElem?_eq_getElem hli
  rw [he] at h0 h1 h2 h3 h4 h5 h6
  obtain ⟨⟨r, hg, ho⟩, hn, hsx⟩ := left_step HI.out.2.2 hle
  have HPU := Aside0.mk (fun W S h => push_ev g s e r hg ho W S h)
  have HN := Aside0.mk hn
  have HSX := Aside0.mk hsx
  have HLT := Aside0.mk hlt
  obtain ⟨⟨kd, at_, ⟨cl, tag, cons, ln⟩, b⟩, hq⟩ : ∃ q, e = q := ⟨_, rfl⟩
  rw [hq] at HPU HN HSX h0 h1 h2 h3 h4 h5 h6
  simp only at HPU h0 h1 h2 h3 h4 h5 h6
  obtain ⟨s2, hs2⟩ : ∃ s2, lookC s ⟨kd, at_, ⟨cl, tag, cons, ln⟩, b⟩ = s2 := ⟨_, rfl⟩
  rw [hs2] at HPU HN HSX
  have hin : (i : Int) < (n : Int) := by omega
  clear hq he hle hg ho hn hsx hlt hli hs2
  rcases s2 with _ | s3
  all_goals
   go_wp2_with (first
    | ((with_reducible refine gate_dst (N := 11) rfl ?_)
       refine sp_box hS rfl (N := 11) rfl #[.int .i64 0, .int .i64 0, .int .i64 0, .int .i64 0, .bool false, .int .i64 0, .int .u8 0] 39 zz34 ?_
       intro gx w3 hg3 hS)
    | ((with_reducible refine gate_store (t := 39) (p := 11) (v := .tmp 25) rfl ?_)
       refine sp_row hS 0 rfl 39 (.tmp 11) (.tmp 25) rfl rfl gx #[.int .i64 kd, .int .i64 at_, .int .i64 cl, .int .i64 tag, .bool cons, .int .i64 ln, .int .u8 b] rfl rfl 39 _ rfl zz23 rfl zz70 rfl ?_
       intro w4 hS
       obtain ⟨k0, k1, k2, k3, k4, k5, k6⟩ := hS.cells7 0
       replace hS := Sp.swap hS)
    | (go_at_call 14
       (with_reducible refine (HPU.out _ (hS.ft 1) (by exact hS.pre1)).mono ?_)
       rintro e w6 ⟨rfl, hq⟩
       replace hS := hS.post1 hq
       clear k0 k1 k2 k3 k4 k5 k6
       obtain ⟨k0, k1, k2, k3, k4, k5, k6⟩ := hS.cells7 1))
  ·
   go_region
   go_wp2
   go_ret2
   have h2 := HV.out
   have h3 := HN.out
   simp only [true_implies, forall_const] at h3
   rw [h3] at h2
   simp only [Option.elim, Prod.mk.injEq] at h2
   rw [h2.1, h2.2]
   exact ⟨rfl, Upd.trans (S := None0) (T := None0) hS0.u (Sp.u (by exact hS.lt)) (fun _ h => False.elim h)⟩
  ·
   go_roundg (gk - 1)
   case measure => have := HI.out; have := HLT.out; omega
   case rel => exact ⟨i + 1, s3, zz56, ⟨by have := HLT.out; omega, by have := HI.out; have := HLT.out; omega, HSX.out s3 rfl⟩, ⟨Sp.sel (l2 := [ck g (some s3)]) hS.lt [0]⟩⟩
end Go.Proofs.Ytpfconocipmcjaa.Vp
namespace Go.Proofs.Ytpfconocipmcjaa.Vp
open Go.RowKit Go.Proofs.Ytpfconocipmcjaa.PC Go.Proofs.YtpfconocipmcjaaW.PrintWords Go.Proofs.YtpfconocipmcjaaW.PrintLast Go.Proofs.YtpfconocipmcjaaW.PrintMore Go.Proofs.Ytpfconocipmcjaa.Own Go.Proofs.Ytpfconocipmcjaa.Sl
open Go.Proofs.Ytpfconocipmcjaa.Bs
set_option linter.unusedVariables false
set_option linter.unusedSimpArgs false
theorem v1 : wholeV (mn (mx 9 0) 64).toNat (bytesOf (⟨#[1, 1, 5]⟩ : ByteArray)) = (7, 2) := by decide +kernel
theorem v2 : wholeV (mn (mx 9 0) 64).toNat (bytesOf (⟨#[36, 0]⟩ : ByteArray)) = (7, 1) := by decide +kernel
theorem v3 : wholeV (mn (mx 9 0) 64).toNat (bytesOf (⟨#[48, 3, 2, 1, 5]⟩ : ByteArray)) = (0, 5) := by decide +kernel
theorem v4 : wholeV (mn (mx 9 0) 64).toNat (bytesOf (⟨#[16, 0]⟩ : ByteArray)) = (7, 1) := by decide +kernel
theorem whole_at (a : ByteArray) (d x y : Int) (h : wholeV (mn (mx d 0) 64).toNat (bytesOf a) = (x, y)) (hs : a.size ≤ 700) (w : World) :
 Calls Try.prog 9 #[.string a, .int .i64 d] w fun e w' => e = .returned (.tuple #[.int .i64 x, .int .i64 y]) ∧ Upd None0 w w' := by
 have := whole_any a d w hs
 rw [h] at this
 exact this
set_option maxHeartbeats 4000000 in
set_option maxRecDepth 100000 in
theorem awake_any (w : World) :
 Calls Try.prog 8 #[] w fun e w' => e = .returned (.bool true) ∧ Upd None0 w w' := by
 have hS := Sp.nil (w := w) (S := None0)
 have H1 := Aside0.mk (whole_at _ _ _ _ v1 zz40)
 have H2 := Aside0.mk (whole_at _ _ _ _ v2 zz40)
 have H3 := Aside0.mk (whole_at _ _ _ _ v3 zz40)
 have H4 := Aside0.mk (whole_at _ _ _ _ v4 zz40)
 go_enter Try.func8, Try.ntmps8
 go_wp2_with (first
  | (go_at_call 9
     first
     | ((with_reducible refine (H1.out _).mono ?_)
        rintro e w4 ⟨rfl, hun⟩
        replace hS := hS.toN hun)
     | ((with_reducible refine (H2.out _).mono ?_)
        rintro e w4 ⟨rfl, hun⟩
        replace hS := hS.toN hun)
     | ((with_reducible refine (H3.out _).mono ?_)
        rintro e w4 ⟨rfl, hun⟩
        replace hS := hS.toN hun)
     | ((with_reducible refine (H4.out _).mono ?_)
        rintro e w4 ⟨rfl, hun⟩
        replace hS := hS.toN hun)))
 go_ret
 exact ⟨rfl, hS.lt.u⟩
end Go.Proofs.Ytpfconocipmcjaa.Vp
namespace Go.Proofs.Ytpfconocipmcjaa.Vp
open Go.RowKit Go.Proofs.Ytpfconocipmcjaa.PC Go.Proofs.YtpfconocipmcjaaW.PrintWords Go.Proofs.YtpfconocipmcjaaW.PrintLast Go.Proofs.YtpfconocipmcjaaW.PrintMore Go.Proofs.Ytpfconocipmcjaa.Own Go.Proofs.Ytpfconocipmcjaa.Sl
open Go.Proofs.Ytpfconocipmcjaa.Bs
set_option linter.unusedVariables false
set_option linter.unusedSimpArgs false
set_option maxHeartbeats 4000000 in
set_option maxRecDepth 100000 in
theorem front_any (a : ByteArray) (n d : Int) (w : World) (hsz : a.size ≤ 140737488351232) :
 Calls Try.prog 5 #[.string a, .int .i64 n, .int .i64 d] w fun e w' => e = .returned (.bool true) ∧ Below w.heap.size w w' := by
 have hS := Sp.nil (w := w) (S := None0)
 have HAW := Aside0.mk awake_any
 by_cases h1 : 250 < a.size
 ·
  have d1 : decide (250 < a.size) = true := decide_eq_true h1
  have d1' : decide ((250 : Int) < (a.size : Int)) = true := decide_eq_true zz18
  clear hsz h1
  go_enter Try.func5, Try.ntmps5
  go_wp2_with (first
   | (go_at_call 8
      (with_reducible refine (HAW.out _).mono ?_)
      rintro e w4 ⟨rfl, hun⟩
      replace hS := hS.toN hun))
  go_ret
  exact ⟨rfl, (Sp.u (by exact hS.lt)).below0⟩
 have d1 : decide (250 < a.size) = false := decide_eq_false h1
 have d1' : decide ((250 : Int) < (a.size : Int)) = false := decide_eq_false zz18
 by_cases h2 : n < 0
 ·
  have d2 : decide (n < 0) = true := decide_eq_true h2
  clear hsz h1 h2
  go_enter Try.func5, Try.ntmps5
  go_wp2_with (first
   | (go_at_call 8
      (with_reducible refine (HAW.out _).mono ?_)
      rintro e w4 ⟨rfl, hun⟩
      replace hS := hS.toN hun))
  go_ret
  exact ⟨rfl, (Sp.u (by exact hS.lt)).below0⟩
 have d2 : decide (n < 0) = false := decide_eq_false h2
 by_cases h3 : (a.size : Int) < n
 ·
  have d3 : decide ((a.size : Int) < n) = true := decide_eq_true h3
  clear hsz h1 h2 h3
  go_enter Try.func5, Try.ntmps5
  go_wp2_with (first
   | (go_at_call 8
      (with_reducible refine (HAW.out _).mono ?_)
      rintro e w4 ⟨rfl, hun⟩
      replace hS := hS.toN hun))
  go_ret
  exact ⟨rfl, (Sp.u (by exact hS.lt)).below0⟩
 have d3 : decide ((a.size : Int) < n) = false := decide_eq_false h3
 obtain ⟨m, rfl⟩ : ∃ m : Nat, n = (m : Int) := ⟨n.toNat, zz18⟩
 obtain ⟨⟨e, at_⟩, hw1⟩ : ∃ q, wholeV (mn (mx d 0) 64).toNat (bytesOf a) = q := ⟨_, rfl⟩
 obtain ⟨⟨f, on⟩, hw2⟩ : ∃ q, wholeV (mn (mx d 0) 64).toNat (bytesOf (a.extract 0 m)) = q := ⟨_, rfl⟩
 have H1 := Aside0.mk (whole_at a d e at_ hw1 zz18)
 have H2 := Aside0.mk (whole_at (a.extract 0 m) d f on hw2 (by rw [ByteArray.size_extract]; omega))
 have hfr := wholeV_front (mn (mx d 0) 64).toNat ((bytesOf a).take m) ((bytesOf a).drop m) (fun x hx => bytes_of a x (List.mem_of_mem_take hx)) (fun x hx => bytes_of a x (List.mem_of_mem_drop hx)) e at_ f on (by rw [List.take_append_drop]; exact hw1) (by rw [← bytesOf_front]; exact hw2)
 rw [show (((bytesOf a).take m).length : Int) = (m : Int) by rw [List.length_take, bytesOf_length]; omega] at hfr
 have hm0 : (0 : Int) ≤ (m : Int) := by omega
 have hma : (m : Int) ≤ (a.size : Int) := by omega
 have hmn : m ≤ a.size := by omega
 clear hw1 hw2 hsz h1 h2 h3
 by_cases ho : on < (m : Int)
 ·
  rw [if_pos ho] at hfr
  obtain ⟨rfl, rfl⟩ := hfr
  have d4 : decide (on < (m : Int)) = true := decide_eq_true ho
  clear ho
  go_enter Try.func5, Try.ntmps5
  go_wp2_with (first
   | (go_at_call 8
      (with_reducible refine (HAW.out _).mono ?_)
      rintro e w4 ⟨rfl, hun⟩
      replace hS := hS.toN hun)
   | (go_at_call 9
      first
      | ((with_reducible refine (H1.out _).mono ?_)
         rintro e w4 ⟨rfl, hun⟩
         replace hS := hS.toN hun)
      | ((with_reducible refine (H2.out _).mono ?_)
         rintro e w4 ⟨rfl, hun⟩
         replace hS := hS.toN hun)))
  go_ret
  exact ⟨zz56, (Sp.u (by exact hS.lt)).below0⟩
 rw [if_neg ho] at hfr
 have d4 : decide (on < (m : Int)) = false := decide_eq_false ho
 obtain ⟨q1, q2, q3⟩ := hfr
 subst q1
 clear ho
 have hcd : ∀ x : Int, decide ((m : Int) ≤ x) = decide ((m : Int) ≤ x) := fun _ => rfl
 by_cases he : e = 0
 ·
  subst he
  rcases q2 with rfl | rfl
  all_goals
   go_enter Try.func5, Try.ntmps5
   go_wp2_with (first
    | (go_at_call 8
       (with_reducible refine (HAW.out _).mono ?_)
       rintro e w4 ⟨rfl, hun⟩
       replace hS := hS.toN hun)
    | (go_at_call 9
       first
       | ((with_reducible refine (H1.out _).mono ?_)
          rintro e w4 ⟨rfl, hun⟩
          replace hS := hS.toN hun)
       | ((with_reducible refine (H2.out _).mono ?_)
          rintro e w4 ⟨rfl, hun⟩
          replace hS := hS.toN hun)))
   go_ret
   exact ⟨by first | rfl | simp, (Sp.u (by exact hS.lt)).below0⟩
 ·
  have d5 : (e == 0) = false := by simpa using he
  have h6 : (m : Int) ≤ at_ := q3.resolve_left he
  have d6 : decide ((m : Int) ≤ at_) = true := decide_eq_true h6
  clear q3
  rcases q2 with rfl | rfl
  all_goals
   go_enter Try.func5, Try.ntmps5
   go_wp2_with (first
    | (go_at_call 8
       (with_reducible refine (HAW.out _).mono ?_)
       rintro e w4 ⟨rfl, hun⟩
       replace hS := hS.toN hun)
    | (go_at_call 9
       first
       | ((with_reducible refine (H1.out _).mono ?_)
          rintro e w4 ⟨rfl, hun⟩
          replace hS := hS.toN hun)
       | ((with_reducible refine (H2.out _).mono ?_)
          rintro e w4 ⟨rfl, hun⟩
          replace hS := hS.toN hun)))
   go_ret
   exact ⟨by first | rfl | simp, (Sp.u (by exact hS.lt)).below0⟩
end Go.Proofs.Ytpfconocipmcjaa.Vp
namespace Go.Proofs.Ytpfconocipmcjaa.valueFront
open Go.ChangeShapes Go.WideShapes Go.ChangeAt Go.RowKit Go.Joins
open Go.ChangeMaps (open_string shut_string)
set_option linter.unusedVariables false
set_option linter.unusedSimpArgs false
theorem own : ownKnob Try.prog.godebug = none := by kernel_rfl
theorem laidOut : laidOutB Try.prog = true := by kernel_rfl
set_option maxRecDepth 100000 in
theorem lifted (os : Os) (started : os.Started) (H : Type) (enc : TypeId × Value → H) :
 ReturnsInHanded {} Try.checked os 5 .any (Rows.valueFrontSpec.pre6 enc Try.prog Try.f5 Rows.valueFrontRow.domain false) (Rows.valueFrontSpec.post enc Try.prog Try.f5 false true false false) := by
 refine returnsInHanded_of_change_sized (C := Try.checked) own started zz23 Try.func5
  (ChangeSpec.witness6 (enc := enc) (C := Try.checked) false ⟨#[], #[.string ByteArray.empty, .int .i64 0, .int .i64 0], []⟩ 8 zz23 zz23 zz23 zz23) ?_
 intro W base args ds gs before hval0 hW hcnd hsz0 _
 have hsz : (DataW.weightsEach Try.prog (Try.f5.params.toList ++ Rows.valueFrontSpec.plain.varTypes Try.prog) (ds ++ gs)).all (· ≤ reachBytes) = true := hsz0
 have hval : ∀ (j : Nat) t v, Try.f5.params[j]? = some t → args[j]? = some v → Value.okWide Try.prog W .any base t v := hval0
 have hW' := hW
 obtain ⟨p, q, hA0, hV, rfl, hfz, hnd⟩ := hW
 have hA : DataW.TrodAll enc Try.prog W 0 (fun _ => true) true Try.f5.params.toList args.toList ds p := hA0
 rw [Try.params5] at hA hval hsz
 obtain ⟨v0, vs0, d0, ds0, p0, q0, hargs, rfl, rfl, h0, r0⟩ := trodAll_cons hA
 obtain ⟨v1, vs1, d1, ds1, p1, q1, rfl, rfl, rfl, h1, r1⟩ := trodAll_cons r0
 obtain ⟨v2, vs2, d2, ds2, p2, q2, rfl, rfl, rfl, h2, r2⟩ := trodAll_cons r1
 obtain ⟨rfl, rfl, rfl⟩ := trodAll_nil r2
 obtain rfl : args = #[v0, v1, v2] := by cases args; simp_all
 obtain ⟨rfl, rfl⟩ := trodVars_none hV
 obtain ⟨a0, rfl, rfl, rfl, y0⟩ := open_string Try.underlying9 (hval 0 9 v0 rfl rfl) h0
 have w0 : a0.size ≤ 140737488351232 := by
  have z := sized_string hsz (j := 0) (t := 9) rfl rfl
  rw [Array.length_toList] at z
  exact z
 obtain ⟨a1, rfl, rfl, rfl, w1⟩ := open_int Try.underlying3 (hval 1 3 v1 rfl rfl) h1
 obtain ⟨a2, rfl, rfl, rfl, w2⟩ := open_int Try.underlying3 (hval 2 3 v2 rfl rfl) h2
 clear hA0 hval0 hsz0 hsz
 refine (Vp.front_any a0 a1 a2 W w0).mono fun e W' ⟨he, bel⟩ => ?_
 subst he
 exact ⟨_, rfl, _, _, _, [], _, [], hW', trodAll_mk1 (shut_bool Try.underlying4 _), (trodAll_cons_mk (shut_string Try.underlying9 y0) (trodAll_cons_mk (shut_int Try.underlying3 w1) (trodAll_cons_mk (shut_int Try.underlying3 w2) trodAll_mk0))), rfl, bel.frame _, fun h => by cases h⟩
theorem over : Rows.valueFrontRow.holds Try.pinned (OpenSpec.ofChange Rows.valueFrontSpec) :=
 OpenClaim.holds_of_wide 5 Try.f5 rfl rfl rfl rfl rfl rfl rfl ⟨rfl, rfl, rfl, rfl, rfl⟩ rfl rfl rfl rfl rfl zz23 Try.func5 zz23
  (of_decide_eq_true zz23) (by unfold Func.isWrapper; first | (rw [if_pos (by decide +kernel)]; kernel_rfl) | (rw [if_neg (by decide +kernel)]; exact ⟨rfl, rfl⟩))
  (fun os started H enc _ => lifted os started H enc)
theorem proved : Rows.ValueFrontSaid := over
#print axioms proved
end Go.Proofs.Ytpfconocipmcjaa.valueFront
namespace Go.Proofs.Ytpfconocipmcjaa
theorem valueFront_holds : Rows.ValueFrontSaid := valueFront.proved
end Go.Proofs.Ytpfconocipmcjaa
