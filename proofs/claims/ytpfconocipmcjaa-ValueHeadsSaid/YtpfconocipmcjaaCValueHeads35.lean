/- The row of ValueHeads: for every input the law returns true; no condition. Made small by a program of this session (pack.py). -/
import Derived.Below
import Derived.ChangeOld
import Derived.Lib.SmallJoins
import Derived.OpenShut
import Derived.ProofKit
import Derived.ShutString
import Derived.SizedLaws
import Derived.Test.YtpfconocipmcjaaRows
import Derived.WalkKit
import Derived.Test.YtpfconocipmcjaaCValueHeads2
import Derived.Test.YtpfconocipmcjaaCValueHeads15
import Derived.Test.YtpfconocipmcjaaCValueHeads18
import Derived.Test.YtpfconocipmcjaaCValueHeads29
import Derived.Test.YtpfconocipmcjaaCValueHeads31
import Derived.Test.YtpfconocipmcjaaCValueHeads32
import Derived.Test.YtpfconocipmcjaaCValueHeads33
import Derived.Test.YtpfconocipmcjaaCValueHeads34
namespace Go.Proofs.Ytpfconocipmcjaa.BHd
open RowKit PC YtpfconocipmcjaaW.PrintWords YtpfconocipmcjaaW.PrintLast YtpfconocipmcjaaW.PrintMore
open Idm Lenm Hdm BId BLen RId
set_option linter.unusedVariables false
theorem rhput_ok (k : Nat) {c t n : Int} (cons : Bool) (h : Whole c t n) (hk : 20 ≤ k) : gantletref07_Put.f k c t cons n = some (strOfNums (hdenc c t cons n), 0) := by
 obtain ⟨m, rfl⟩ : ∃ m, k = m + 9 := ⟨k - 9, zz5⟩
 have hl := hdenc_len cons h
 unfold gantletref07_Put.f
 rw [rput_ok m cons n h.1, Option.bind_some]
 simp only [if_true]
 rw [rlput_ok (m + 9) n h.2.1 h.2.2 zz5, Option.bind_some]
 simp only [if_true]
 rw [if_pos (by rw [strOfNums_size, strOfNums_size]; omega), strOf_append]
 rfl
end Go.Proofs.Ytpfconocipmcjaa.BHd
namespace Go.Proofs.Ytpfconocipmcjaa.Vp
open RowKit PC YtpfconocipmcjaaW.PrintWords YtpfconocipmcjaaW.PrintLast YtpfconocipmcjaaW.PrintMore Own Sl
open Bs
set_option linter.unusedVariables false
set_option linter.unusedSimpArgs false
theorem fv_one (e : Ev) (h : WfL 0 [e]) : decide (fv 0 [e] < 0) = (lookC .any e).isSome := by
 rw [fv_bi [e] 0 0 h, bi]
 cases lookC .any e with
 | none => rfl
 | some s => rfl
theorem first_one (e : Ev) (hwf : WfL 0 [e]) (A : Option Addr) (c : Nat) (w : World) (h : Kd.C k39 w A 1 [e]) :
 Calls Try.prog 13 #[.slice A 1 c] w fun e' w' => e' = .returned (.int .i64 (fv 0 [e])) ∧ Upd None0 w w' := first_any A c [e] w h hwf zz28
set_option maxHeartbeats 4000000 in
set_option maxRecDepth 100000 in
theorem heads_any (cl tag : Int) (cons : Bool) (ln : Int) (w : World) :
 Calls Try.prog 7 #[.agg #[.int .i64 cl, .int .i64 tag, .bool cons, .int .i64 ln]] w fun e w' => e = .returned (.bool true) ∧ Below w.heap.size w w' := by
 have hS := Sp.nil (w := w) (S := None0)
 have HAW := Aside0.mk awake_any
 have hu := Try.underlying39
 have hu2 := Try.underlying37
 have hu3 := Try.underlying50
 by_cases h1 : ln < 0
 ·
  have d1 : decide (ln < 0) = true := decide_eq_true h1
  clear h1
  go_enter Try.func7, Try.ntmps7
  go_wp2_with (first
   | ((with_reducible refine gate_dst (N := 1) rfl ?_)
      refine sp_box hS rfl (N := 1) rfl _ 37 zz9 ?_
      intro g1 w1 hg1 hS
      obtain ⟨k0, k1, k2, k3⟩ := hS.cells4 0)
   | (go_at_call 8
      (with_reducible refine (HAW.out _).mono ?_)
      rintro e w4 ⟨rfl, hun⟩
      replace hS := hS.toN hun
      (try clear k0 k1 k2 k3)
      obtain ⟨k0, k1, k2, k3⟩ := hS.cells4 0))
  go_ret
  exact ⟨rfl, (Sp.u zz55).below0⟩
 have d1 : decide (ln < 0) = false := decide_eq_false h1
 by_cases h2 : 2305843009213693951 < ln
 ·
  have d2 : decide (2305843009213693951 < ln) = true := decide_eq_true h2
  clear h2 h1
  go_enter Try.func7, Try.ntmps7
  go_wp2_with (first
   | ((with_reducible refine gate_dst (N := 1) rfl ?_)
      refine sp_box hS rfl (N := 1) rfl _ 37 zz9 ?_
      intro g1 w1 hg1 hS
      obtain ⟨k0, k1, k2, k3⟩ := hS.cells4 0)
   | (go_at_call 8
      (with_reducible refine (HAW.out _).mono ?_)
      rintro e w4 ⟨rfl, hun⟩
      replace hS := hS.toN hun
      (try clear k0 k1 k2 k3)
      obtain ⟨k0, k1, k2, k3⟩ := hS.cells4 0))
  go_ret
  exact ⟨rfl, (Sp.u zz55).below0⟩
 have d2 : decide (2305843009213693951 < ln) = false := decide_eq_false h2
 by_cases h3 : cl < 0
 ·
  have d3 : decide (cl < 0) = true := decide_eq_true h3
  clear h3 h1 h2
  go_enter Try.func7, Try.ntmps7
  go_wp2_with (first
   | ((with_reducible refine gate_dst (N := 1) rfl ?_)
      refine sp_box hS rfl (N := 1) rfl _ 37 zz9 ?_
      intro g1 w1 hg1 hS
      obtain ⟨k0, k1, k2, k3⟩ := hS.cells4 0)
   | (go_at_call 8
      (with_reducible refine (HAW.out _).mono ?_)
      rintro e w4 ⟨rfl, hun⟩
      replace hS := hS.toN hun
      (try clear k0 k1 k2 k3)
      obtain ⟨k0, k1, k2, k3⟩ := hS.cells4 0))
  go_ret
  exact ⟨rfl, (Sp.u zz55).below0⟩
 have d3 : decide (cl < 0) = false := decide_eq_false h3
 by_cases h4 : 3 < cl
 ·
  have d4 : decide (3 < cl) = true := decide_eq_true h4
  clear h4 h1 h2 h3
  go_enter Try.func7, Try.ntmps7
  go_wp2_with (first
   | ((with_reducible refine gate_dst (N := 1) rfl ?_)
      refine sp_box hS rfl (N := 1) rfl _ 37 zz9 ?_
      intro g1 w1 hg1 hS
      obtain ⟨k0, k1, k2, k3⟩ := hS.cells4 0)
   | (go_at_call 8
      (with_reducible refine (HAW.out _).mono ?_)
      rintro e w4 ⟨rfl, hun⟩
      replace hS := hS.toN hun
      (try clear k0 k1 k2 k3)
      obtain ⟨k0, k1, k2, k3⟩ := hS.cells4 0))
  go_ret
  exact ⟨rfl, (Sp.u zz55).below0⟩
 have d4 : decide (3 < cl) = false := decide_eq_false h4
 by_cases h5 : tag < 0
 ·
  have d5 : decide (tag < 0) = true := decide_eq_true h5
  clear h5 h1 h2 h3 h4
  go_enter Try.func7, Try.ntmps7
  go_wp2_with (first
   | ((with_reducible refine gate_dst (N := 1) rfl ?_)
      refine sp_box hS rfl (N := 1) rfl _ 37 zz9 ?_
      intro g1 w1 hg1 hS
      obtain ⟨k0, k1, k2, k3⟩ := hS.cells4 0)
   | (go_at_call 8
      (with_reducible refine (HAW.out _).mono ?_)
      rintro e w4 ⟨rfl, hun⟩
      replace hS := hS.toN hun
      (try clear k0 k1 k2 k3)
      obtain ⟨k0, k1, k2, k3⟩ := hS.cells4 0))
  go_ret
  exact ⟨rfl, (Sp.u zz55).below0⟩
 have d5 : decide (tag < 0) = false := decide_eq_false h5
 by_cases h6 : 268435455 < tag
 ·
  have d6 : decide (268435455 < tag) = true := decide_eq_true h6
  clear h6 h1 h2 h3 h4 h5
  go_enter Try.func7, Try.ntmps7
  go_wp2_with (first
   | ((with_reducible refine gate_dst (N := 1) rfl ?_)
      refine sp_box hS rfl (N := 1) rfl _ 37 zz9 ?_
      intro g1 w1 hg1 hS
      obtain ⟨k0, k1, k2, k3⟩ := hS.cells4 0)
   | (go_at_call 8
      (with_reducible refine (HAW.out _).mono ?_)
      rintro e w4 ⟨rfl, hun⟩
      replace hS := hS.toN hun
      (try clear k0 k1 k2 k3)
      obtain ⟨k0, k1, k2, k3⟩ := hS.cells4 0))
  go_ret
  exact ⟨rfl, (Sp.u zz55).below0⟩
 have d6 : decide (268435455 < tag) = false := decide_eq_false h6
 obtain ⟨pb, hpb⟩ : ∃ pb, gantletref07_Put.f 30 cl tag cons ln = some (pb, 0) := ⟨_, BHd.rhput_ok 30 cons ⟨⟨zz5, zz5⟩, zz5, by show ln ≤ Lenm.MaxLen; unfold Lenm.MaxLen; omega⟩ zz14⟩
 have HP := Aside0.mk (fun W => gantletref07_Put.calls 30 cl tag cons ln pb 0 W hpb)
 obtain ⟨pos, hpos⟩ : ∃ x, IntKind.i64.wrap ((pb.size : Int) - 1) = x := ⟨_, rfl⟩
 have HAT : ∀ kd : Int, (kd = 1 ∨ kd = 2) → WfL 0 [(⟨kd, pos, ⟨cl, tag, cons, ln⟩, 0⟩ : Ev)] := fun kd hk => ⟨⟨⟨Int.le_refl _, by show (0 : Int) < 256; decide⟩, fun h => by exfalso; have : kd = 3 := h; omega, fun _ => rfl, fun _ => ⟨by show (0 : Int) ≤ ln; omega, by show ln ≤ 2305843009213693951; omega⟩⟩, trivial⟩
 have HCLS : ∀ kd : Int, (kd = 1 ∨ kd = 2) → cl ≠ 0 → (lookC .any (⟨kd, pos, ⟨cl, tag, cons, ln⟩, 0⟩ : Ev)).isSome = true := fun kd hk hc => by
  unfold lookC
  rw [if_neg (show ¬ kd = 3 by omega), if_neg (fun h => hc h.2), if_neg (fun h => hc h.2)]
  split <;> rfl
 clear h1 h2 h3 h4 h5 h6 hpb
 cases cons
 ·
  obtain ⟨ev, hev⟩ : ∃ ev : Ev, (⟨2, pos, ⟨cl, tag, false, ln⟩, 0⟩ : Ev) = ev := ⟨_, rfl⟩
  have hwf := HAT 2 zz14
  have hcs := HCLS 2 zz14
  have HPU := Aside0.mk (fun g W S h => push_ev g .any (⟨2, pos, ⟨cl, tag, false, ln⟩, 0⟩ : Ev) 0 trivial hwf.1 W S h)
  have HFI := Aside0.mk (first_one (⟨2, pos, ⟨cl, tag, false, ln⟩, 0⟩ : Ev) hwf)
  have hf1 := fv_one _ hwf
  obtain ⟨ff, hff⟩ : ∃ x, fv 0 [(⟨2, pos, ⟨cl, tag, false, ln⟩, 0⟩ : Ev)] = x := ⟨_, rfl⟩
  rw [hff] at HFI hf1
  rw [hev] at HPU hf1 hcs
  obtain ⟨s2, hs2⟩ : ∃ s, lookC .any ev = s := ⟨_, rfl⟩
  rw [hs2] at HPU hf1 hcs
  subst hev
  simp only at HPU
  clear HAT HCLS hwf hs2 hff
  have hcs0 : (cl == 0) = true ∨ (cl == 0) = false ∧ s2.isSome = true := by
   by_cases hc : cl = 0
   ·
    exact .inl (beq_iff_eq.2 hc)
   ·
    exact .inr ⟨beq_eq_false_iff_ne.2 hc, hcs hc⟩
  clear hcs
  rcases s2 with _ | s3
  ·
   rcases hcs0 with hcs0 | ⟨_, hcs0⟩
   ·
    simp only [Option.isSome_none, Bool.false_eq_true, if_false] at hf1 HPU
    go_enter Try.func7, Try.ntmps7
    go_wp2_with (first
     | ((with_reducible refine gate_dst (N := 1) rfl ?_)
        refine sp_box hS rfl (N := 1) rfl _ 37 zz9 ?_
        intro g1 w1 hg1 hS
        obtain ⟨k0, k1, k2, k3⟩ := hS.cells4 0)
     | (go_at_call 8
        (with_reducible refine (HAW.out _).mono ?_)
        rintro e w4 ⟨rfl, hun⟩
        replace hS := hS.toN hun
        (try clear k0 k1 k2 k3)
        obtain ⟨k0, k1, k2, k3⟩ := hS.cells4 0)
     | (go_at_call 11
        (with_reducible refine (new_ck _).mono ?_)
        rintro e w5 ⟨g, rfl, hq⟩
        replace hS := hS.post0 (Sp.mo hq (fun _ h => h.elim))
        clear k0 k1 k2 k3
        obtain ⟨k0, k1, k2, k3⟩ := hS.cells4 1)
     | (go_at_call 16
        (with_reducible refine (HP.out _).mono ?_)
        rintro e w6 ⟨rfl, hb6⟩
        replace hS := hS.toN (Upd.of_below hb6 : Upd None0 _ w6)
        clear k0 k1 k2 k3
        obtain ⟨k0, k1, k2, k3⟩ := hS.cells4 1)
     | ((with_reducible refine gate_dst (N := 6) rfl ?_)
        refine sp_box hS rfl (N := 6) rfl #[.int .i64 0, .int .i64 0, .int .i64 0, .int .i64 0, .bool false, .int .i64 0, .int .u8 0] 39 zz9 ?_
        intro g6 w7 hg6 hS)
     | ((with_reducible refine gate_store (t := 39) (p := 6) (v := .tmp 53) rfl ?_)
        refine sp_row hS 0 rfl 39 (.tmp 6) (.tmp 53) rfl rfl g6 #[.int .i64 2, .int .i64 pos, .int .i64 cl, .int .i64 tag, .bool false, .int .i64 ln, .int .u8 0] rfl rfl 39 _ rfl zz13 rfl zz34 rfl ?_
        intro w8 hS
        clear k0 k1 k2 k3
        obtain ⟨k0, k1, k2, k3⟩ := hS.cells4 2
        obtain ⟨e0, e1, e2, e3, e4, e5, e6⟩ := hS.cells7 0)
     | (go_at_call 14
        replace hS := Sp.swap hS
        (with_reducible refine (HPU.out g _ (hS.ft 1) zz66).mono ?_)
        rintro e w10 ⟨rfl, hq⟩
        replace hS := hS.post1 hq
        clear k0 k1 k2 k3 e0 e1 e2 e3 e4 e5 e6
        obtain ⟨k0, k1, k2, k3⟩ := hS.cells4 2
        obtain ⟨e0, e1, e2, e3, e4, e5, e6⟩ := hS.cells7 1)
     | ((with_reducible refine gate_dst (N := 63) rfl ?_)
        go_loud (refine sp_lit k39 hS 39 rfl (N := 63) rfl [(⟨2, pos, ⟨cl, tag, false, ln⟩, 0⟩ : Ev)] [.int .i64 2, .int .i64 pos, .int .i64 cl, .int .i64 tag, .bool false, .int .i64 ln, .int .u8 0] zz9 (reps_one (k39_mkM _ _ _ _) rfl) zz28 ?_)
        intro A3 c3 w11 hS
        clear k0 k1 k2 k3
        obtain ⟨k0, k1, k2, k3⟩ := hS.cells4 3)
     | (go_at_call 13
        have hrd := hS.reads 0
        (with_reducible refine (HFI.out _ _ _ hrd).mono ?_)
        rintro e w12 ⟨rfl, hu12⟩
        replace hS := hS.toN hu12
        clear k0 k1 k2 k3 e0 e1 e2 e3 e4 e5 e6
        obtain ⟨k0, k1, k2, k3⟩ := hS.cells4 3))
    go_ret
    exact ⟨rfl, (Sp.u zz55).below0⟩
   ·
    cases hcs0
  ·
   simp only [Option.isSome_some, if_true] at hf1 HPU
   rcases hcs0 with hcs0 | ⟨hcs0, _⟩
   ·
    go_enter Try.func7, Try.ntmps7
    go_wp2_with (first
     | ((with_reducible refine gate_dst (N := 1) rfl ?_)
        refine sp_box hS rfl (N := 1) rfl _ 37 zz9 ?_
        intro g1 w1 hg1 hS
        obtain ⟨k0, k1, k2, k3⟩ := hS.cells4 0)
     | (go_at_call 8
        (with_reducible refine (HAW.out _).mono ?_)
        rintro e w4 ⟨rfl, hun⟩
        replace hS := hS.toN hun
        (try clear k0 k1 k2 k3)
        obtain ⟨k0, k1, k2, k3⟩ := hS.cells4 0)
     | (go_at_call 11
        (with_reducible refine (new_ck _).mono ?_)
        rintro e w5 ⟨g, rfl, hq⟩
        replace hS := hS.post0 (Sp.mo hq (fun _ h => h.elim))
        clear k0 k1 k2 k3
        obtain ⟨k0, k1, k2, k3⟩ := hS.cells4 1)
     | (go_at_call 16
        (with_reducible refine (HP.out _).mono ?_)
        rintro e w6 ⟨rfl, hb6⟩
        replace hS := hS.toN (Upd.of_below hb6 : Upd None0 _ w6)
        clear k0 k1 k2 k3
        obtain ⟨k0, k1, k2, k3⟩ := hS.cells4 1)
     | ((with_reducible refine gate_dst (N := 6) rfl ?_)
        refine sp_box hS rfl (N := 6) rfl #[.int .i64 0, .int .i64 0, .int .i64 0, .int .i64 0, .bool false, .int .i64 0, .int .u8 0] 39 zz9 ?_
        intro g6 w7 hg6 hS)
     | ((with_reducible refine gate_store (t := 39) (p := 6) (v := .tmp 53) rfl ?_)
        refine sp_row hS 0 rfl 39 (.tmp 6) (.tmp 53) rfl rfl g6 #[.int .i64 2, .int .i64 pos, .int .i64 cl, .int .i64 tag, .bool false, .int .i64 ln, .int .u8 0] rfl rfl 39 _ rfl zz13 rfl zz34 rfl ?_
        intro w8 hS
        clear k0 k1 k2 k3
        obtain ⟨k0, k1, k2, k3⟩ := hS.cells4 2
        obtain ⟨e0, e1, e2, e3, e4, e5, e6⟩ := hS.cells7 0)
     | (go_at_call 14
        replace hS := Sp.swap hS
        (with_reducible refine (HPU.out g _ (hS.ft 1) zz66).mono ?_)
        rintro e w10 ⟨rfl, hq⟩
        replace hS := hS.post1 hq
        clear k0 k1 k2 k3 e0 e1 e2 e3 e4 e5 e6
        obtain ⟨k0, k1, k2, k3⟩ := hS.cells4 2
        obtain ⟨e0, e1, e2, e3, e4, e5, e6⟩ := hS.cells7 1)
     | ((with_reducible refine gate_dst (N := 63) rfl ?_)
        go_loud (refine sp_lit k39 hS 39 rfl (N := 63) rfl [(⟨2, pos, ⟨cl, tag, false, ln⟩, 0⟩ : Ev)] [.int .i64 2, .int .i64 pos, .int .i64 cl, .int .i64 tag, .bool false, .int .i64 ln, .int .u8 0] zz9 (reps_one (k39_mkM _ _ _ _) rfl) zz28 ?_)
        intro A3 c3 w11 hS
        clear k0 k1 k2 k3
        obtain ⟨k0, k1, k2, k3⟩ := hS.cells4 3)
     | (go_at_call 13
        have hrd := hS.reads 0
        (with_reducible refine (HFI.out _ _ _ hrd).mono ?_)
        rintro e w12 ⟨rfl, hu12⟩
        replace hS := hS.toN hu12
        clear k0 k1 k2 k3 e0 e1 e2 e3 e4 e5 e6
        obtain ⟨k0, k1, k2, k3⟩ := hS.cells4 3))
    go_ret
    exact ⟨rfl, (Sp.u zz55).below0⟩
   ·
    go_enter Try.func7, Try.ntmps7
    go_wp2_with (first
     | ((with_reducible refine gate_dst (N := 1) rfl ?_)
        refine sp_box hS rfl (N := 1) rfl _ 37 zz9 ?_
        intro g1 w1 hg1 hS
        obtain ⟨k0, k1, k2, k3⟩ := hS.cells4 0)
     | (go_at_call 8
        (with_reducible refine (HAW.out _).mono ?_)
        rintro e w4 ⟨rfl, hun⟩
        replace hS := hS.toN hun
        (try clear k0 k1 k2 k3)
        obtain ⟨k0, k1, k2, k3⟩ := hS.cells4 0)
     | (go_at_call 11
        (with_reducible refine (new_ck _).mono ?_)
        rintro e w5 ⟨g, rfl, hq⟩
        replace hS := hS.post0 (Sp.mo hq (fun _ h => h.elim))
        clear k0 k1 k2 k3
        obtain ⟨k0, k1, k2, k3⟩ := hS.cells4 1)
     | (go_at_call 16
        (with_reducible refine (HP.out _).mono ?_)
        rintro e w6 ⟨rfl, hb6⟩
        replace hS := hS.toN (Upd.of_below hb6 : Upd None0 _ w6)
        clear k0 k1 k2 k3
        obtain ⟨k0, k1, k2, k3⟩ := hS.cells4 1)
     | ((with_reducible refine gate_dst (N := 6) rfl ?_)
        refine sp_box hS rfl (N := 6) rfl #[.int .i64 0, .int .i64 0, .int .i64 0, .int .i64 0, .bool false, .int .i64 0, .int .u8 0] 39 zz9 ?_
        intro g6 w7 hg6 hS)
     | ((with_reducible refine gate_store (t := 39) (p := 6) (v := .tmp 53) rfl ?_)
        refine sp_row hS 0 rfl 39 (.tmp 6) (.tmp 53) rfl rfl g6 #[.int .i64 2, .int .i64 pos, .int .i64 cl, .int .i64 tag, .bool false, .int .i64 ln, .int .u8 0] rfl rfl 39 _ rfl zz13 rfl zz34 rfl ?_
        intro w8 hS
        clear k0 k1 k2 k3
        obtain ⟨k0, k1, k2, k3⟩ := hS.cells4 2
        obtain ⟨e0, e1, e2, e3, e4, e5, e6⟩ := hS.cells7 0)
     | (go_at_call 14
        replace hS := Sp.swap hS
        (with_reducible refine (HPU.out g _ (hS.ft 1) zz66).mono ?_)
        rintro e w10 ⟨rfl, hq⟩
        replace hS := hS.post1 hq
        clear k0 k1 k2 k3 e0 e1 e2 e3 e4 e5 e6
        obtain ⟨k0, k1, k2, k3⟩ := hS.cells4 2
        obtain ⟨e0, e1, e2, e3, e4, e5, e6⟩ := hS.cells7 1)
     | ((with_reducible refine gate_dst (N := 63) rfl ?_)
        go_loud (refine sp_lit k39 hS 39 rfl (N := 63) rfl [(⟨2, pos, ⟨cl, tag, false, ln⟩, 0⟩ : Ev)] [.int .i64 2, .int .i64 pos, .int .i64 cl, .int .i64 tag, .bool false, .int .i64 ln, .int .u8 0] zz9 (reps_one (k39_mkM _ _ _ _) rfl) zz28 ?_)
        intro A3 c3 w11 hS
        clear k0 k1 k2 k3
        obtain ⟨k0, k1, k2, k3⟩ := hS.cells4 3)
     | (go_at_call 13
        have hrd := hS.reads 0
        (with_reducible refine (HFI.out _ _ _ hrd).mono ?_)
        rintro e w12 ⟨rfl, hu12⟩
        replace hS := hS.toN hu12
        clear k0 k1 k2 k3 e0 e1 e2 e3 e4 e5 e6
        obtain ⟨k0, k1, k2, k3⟩ := hS.cells4 3))
    go_ret
    exact ⟨rfl, (Sp.u zz55).below0⟩
 ·
  obtain ⟨ev, hev⟩ : ∃ ev : Ev, (⟨1, pos, ⟨cl, tag, true, ln⟩, 0⟩ : Ev) = ev := ⟨_, rfl⟩
  have hwf := HAT 1 zz14
  have hcs := HCLS 1 zz14
  have HPU := Aside0.mk (fun g W S h => push_ev g .any (⟨1, pos, ⟨cl, tag, true, ln⟩, 0⟩ : Ev) 0 trivial hwf.1 W S h)
  have HFI := Aside0.mk (first_one (⟨1, pos, ⟨cl, tag, true, ln⟩, 0⟩ : Ev) hwf)
  have hf1 := fv_one _ hwf
  obtain ⟨ff, hff⟩ : ∃ x, fv 0 [(⟨1, pos, ⟨cl, tag, true, ln⟩, 0⟩ : Ev)] = x := ⟨_, rfl⟩
  rw [hff] at HFI hf1
  rw [hev] at HPU hf1 hcs
  obtain ⟨s2, hs2⟩ : ∃ s, lookC .any ev = s := ⟨_, rfl⟩
  rw [hs2] at HPU hf1 hcs
  subst hev
  simp only at HPU
  clear HAT HCLS hwf hs2 hff
  have hcs0 : (cl == 0) = true ∨ (cl == 0) = false ∧ s2.isSome = true := by
   by_cases hc : cl = 0
   ·
    exact .inl (beq_iff_eq.2 hc)
   ·
    exact .inr ⟨beq_eq_false_iff_ne.2 hc, hcs hc⟩
  clear hcs
  rcases s2 with _ | s3
  ·
   rcases hcs0 with hcs0 | ⟨_, hcs0⟩
   ·
    simp only [Option.isSome_none, Bool.false_eq_true, if_false] at hf1 HPU
    go_enter Try.func7, Try.ntmps7
    go_wp2_with (first
     | ((with_reducible refine gate_dst (N := 1) rfl ?_)
        refine sp_box hS rfl (N := 1) rfl _ 37 zz9 ?_
        intro g1 w1 hg1 hS
        obtain ⟨k0, k1, k2, k3⟩ := hS.cells4 0)
     | (go_at_call 8
        (with_reducible refine (HAW.out _).mono ?_)
        rintro e w4 ⟨rfl, hun⟩
        replace hS := hS.toN hun
        (try clear k0 k1 k2 k3)
        obtain ⟨k0, k1, k2, k3⟩ := hS.cells4 0)
     | (go_at_call 11
        (with_reducible refine (new_ck _).mono ?_)
        rintro e w5 ⟨g, rfl, hq⟩
        replace hS := hS.post0 (Sp.mo hq (fun _ h => h.elim))
        clear k0 k1 k2 k3
        obtain ⟨k0, k1, k2, k3⟩ := hS.cells4 1)
     | (go_at_call 16
        (with_reducible refine (HP.out _).mono ?_)
        rintro e w6 ⟨rfl, hb6⟩
        replace hS := hS.toN (Upd.of_below hb6 : Upd None0 _ w6)
        clear k0 k1 k2 k3
        obtain ⟨k0, k1, k2, k3⟩ := hS.cells4 1)
     | ((with_reducible refine gate_dst (N := 6) rfl ?_)
        refine sp_box hS rfl (N := 6) rfl #[.int .i64 0, .int .i64 0, .int .i64 0, .int .i64 0, .bool false, .int .i64 0, .int .u8 0] 39 zz9 ?_
        intro g6 w7 hg6 hS)
     | ((with_reducible refine gate_store (t := 39) (p := 6) (v := .tmp 53) rfl ?_)
        refine sp_row hS 0 rfl 39 (.tmp 6) (.tmp 53) rfl rfl g6 #[.int .i64 2, .int .i64 pos, .int .i64 cl, .int .i64 tag, .bool true, .int .i64 ln, .int .u8 0] rfl rfl 39 _ rfl zz13 rfl zz34 rfl ?_
        intro w8 hS
        clear k0 k1 k2 k3
        obtain ⟨k0, k1, k2, k3⟩ := hS.cells4 2
        obtain ⟨e0, e1, e2, e3, e4, e5, e6⟩ := hS.cells7 0)
     | ((with_reducible refine gate_store (t := 3) (p := 56) (v := .const (.int .i64 1)) rfl ?_)
        refine sp_cell hS 0 rfl 3 (.tmp 56) (.const (.int .i64 1)) rfl rfl g6 0 (.int .i64 1) rfl rfl 39 _ _ rfl zz13 zz28 rfl rfl rfl ?_
        clear k0 k1 k2 k3 e0 e1 e2 e3 e4 e5 e6
        intro w9 hS
        replace hS : Sp w None0 [blk g6 #[.int .i64 1, .int .i64 pos, .int .i64 cl, .int .i64 tag, .bool true, .int .i64 ln, .int .u8 0] 39, ck g (some .any), blk g1 #[.int .i64 cl, .int .i64 tag, .bool true, .int .i64 ln] 37] w9 := hS
        obtain ⟨k0, k1, k2, k3⟩ := hS.cells4 2
        obtain ⟨e0, e1, e2, e3, e4, e5, e6⟩ := hS.cells7 0)
     | (go_at_call 14
        replace hS := Sp.swap hS
        (with_reducible refine (HPU.out g _ (hS.ft 1) zz66).mono ?_)
        rintro e w10 ⟨rfl, hq⟩
        replace hS := hS.post1 hq
        clear k0 k1 k2 k3 e0 e1 e2 e3 e4 e5 e6
        obtain ⟨k0, k1, k2, k3⟩ := hS.cells4 2
        obtain ⟨e0, e1, e2, e3, e4, e5, e6⟩ := hS.cells7 1)
     | ((with_reducible refine gate_dst (N := 63) rfl ?_)
        go_loud (refine sp_lit k39 hS 39 rfl (N := 63) rfl [(⟨1, pos, ⟨cl, tag, true, ln⟩, 0⟩ : Ev)] [.int .i64 1, .int .i64 pos, .int .i64 cl, .int .i64 tag, .bool true, .int .i64 ln, .int .u8 0] zz9 (reps_one (k39_mkM _ _ _ _) rfl) zz28 ?_)
        intro A3 c3 w11 hS
        clear k0 k1 k2 k3
        obtain ⟨k0, k1, k2, k3⟩ := hS.cells4 3)
     | (go_at_call 13
        have hrd := hS.reads 0
        (with_reducible refine (HFI.out _ _ _ hrd).mono ?_)
        rintro e w12 ⟨rfl, hu12⟩
        replace hS := hS.toN hu12
        clear k0 k1 k2 k3 e0 e1 e2 e3 e4 e5 e6
        obtain ⟨k0, k1, k2, k3⟩ := hS.cells4 3))
    go_ret
    exact ⟨rfl, (Sp.u zz55).below0⟩
   ·
    cases hcs0
  ·
   simp only [Option.isSome_some, if_true] at hf1 HPU
   rcases hcs0 with hcs0 | ⟨hcs0, _⟩
   ·
    go_enter Try.func7, Try.ntmps7
    go_wp2_with (first
     | ((with_reducible refine gate_dst (N := 1) rfl ?_)
        refine sp_box hS rfl (N := 1) rfl _ 37 zz9 ?_
        intro g1 w1 hg1 hS
        obtain ⟨k0, k1, k2, k3⟩ := hS.cells4 0)
     | (go_at_call 8
        (with_reducible refine (HAW.out _).mono ?_)
        rintro e w4 ⟨rfl, hun⟩
        replace hS := hS.toN hun
        (try clear k0 k1 k2 k3)
        obtain ⟨k0, k1, k2, k3⟩ := hS.cells4 0)
     | (go_at_call 11
        (with_reducible refine (new_ck _).mono ?_)
        rintro e w5 ⟨g, rfl, hq⟩
        replace hS := hS.post0 (Sp.mo hq (fun _ h => h.elim))
        clear k0 k1 k2 k3
        obtain ⟨k0, k1, k2, k3⟩ := hS.cells4 1)
     | (go_at_call 16
        (with_reducible refine (HP.out _).mono ?_)
        rintro e w6 ⟨rfl, hb6⟩
        replace hS := hS.toN (Upd.of_below hb6 : Upd None0 _ w6)
        clear k0 k1 k2 k3
        obtain ⟨k0, k1, k2, k3⟩ := hS.cells4 1)
     | ((with_reducible refine gate_dst (N := 6) rfl ?_)
        refine sp_box hS rfl (N := 6) rfl #[.int .i64 0, .int .i64 0, .int .i64 0, .int .i64 0, .bool false, .int .i64 0, .int .u8 0] 39 zz9 ?_
        intro g6 w7 hg6 hS)
     | ((with_reducible refine gate_store (t := 39) (p := 6) (v := .tmp 53) rfl ?_)
        refine sp_row hS 0 rfl 39 (.tmp 6) (.tmp 53) rfl rfl g6 #[.int .i64 2, .int .i64 pos, .int .i64 cl, .int .i64 tag, .bool true, .int .i64 ln, .int .u8 0] rfl rfl 39 _ rfl zz13 rfl zz34 rfl ?_
        intro w8 hS
        clear k0 k1 k2 k3
        obtain ⟨k0, k1, k2, k3⟩ := hS.cells4 2
        obtain ⟨e0, e1, e2, e3, e4, e5, e6⟩ := hS.cells7 0)
     | ((with_reducible refine gate_store (t := 3) (p := 56) (v := .const (.int .i64 1)) rfl ?_)
        refine sp_cell hS 0 rfl 3 (.tmp 56) (.const (.int .i64 1)) rfl rfl g6 0 (.int .i64 1) rfl rfl 39 _ _ rfl zz13 zz28 rfl rfl rfl ?_
        clear k0 k1 k2 k3 e0 e1 e2 e3 e4 e5 e6
        intro w9 hS
        replace hS : Sp w None0 [blk g6 #[.int .i64 1, .int .i64 pos, .int .i64 cl, .int .i64 tag, .bool true, .int .i64 ln, .int .u8 0] 39, ck g (some .any), blk g1 #[.int .i64 cl, .int .i64 tag, .bool true, .int .i64 ln] 37] w9 := hS
        obtain ⟨k0, k1, k2, k3⟩ := hS.cells4 2
        obtain ⟨e0, e1, e2, e3, e4, e5, e6⟩ := hS.cells7 0)
     | (go_at_call 14
        replace hS := Sp.swap hS
        (with_reducible refine (HPU.out g _ (hS.ft 1) zz66).mono ?_)
        rintro e w10 ⟨rfl, hq⟩
        replace hS := hS.post1 hq
        clear k0 k1 k2 k3 e0 e1 e2 e3 e4 e5 e6
        obtain ⟨k0, k1, k2, k3⟩ := hS.cells4 2
        obtain ⟨e0, e1, e2, e3, e4, e5, e6⟩ := hS.cells7 1)
     | ((with_reducible refine gate_dst (N := 63) rfl ?_)
        go_loud (refine sp_lit k39 hS 39 rfl (N := 63) rfl [(⟨1, pos, ⟨cl, tag, true, ln⟩, 0⟩ : Ev)] [.int .i64 1, .int .i64 pos, .int .i64 cl, .int .i64 tag, .bool true, .int .i64 ln, .int .u8 0] zz9 (reps_one (k39_mkM _ _ _ _) rfl) zz28 ?_)
        intro A3 c3 w11 hS
        clear k0 k1 k2 k3
        obtain ⟨k0, k1, k2, k3⟩ := hS.cells4 3)
     | (go_at_call 13
        have hrd := hS.reads 0
        (with_reducible refine (HFI.out _ _ _ hrd).mono ?_)
        rintro e w12 ⟨rfl, hu12⟩
        replace hS := hS.toN hu12
        clear k0 k1 k2 k3 e0 e1 e2 e3 e4 e5 e6
        obtain ⟨k0, k1, k2, k3⟩ := hS.cells4 3))
    go_ret
    exact ⟨rfl, (Sp.u zz55).below0⟩
   ·
    go_enter Try.func7, Try.ntmps7
    go_wp2_with (first
     | ((with_reducible refine gate_dst (N := 1) rfl ?_)
        refine sp_box hS rfl (N := 1) rfl _ 37 zz9 ?_
        intro g1 w1 hg1 hS
        obtain ⟨k0, k1, k2, k3⟩ := hS.cells4 0)
     | (go_at_call 8
        (with_reducible refine (HAW.out _).mono ?_)
        rintro e w4 ⟨rfl, hun⟩
        replace hS := hS.toN hun
        (try clear k0 k1 k2 k3)
        obtain ⟨k0, k1, k2, k3⟩ := hS.cells4 0)
     | (go_at_call 11
        (with_reducible refine (new_ck _).mono ?_)
        rintro e w5 ⟨g, rfl, hq⟩
        replace hS := hS.post0 (Sp.mo hq (fun _ h => h.elim))
        clear k0 k1 k2 k3
        obtain ⟨k0, k1, k2, k3⟩ := hS.cells4 1)
     | (go_at_call 16
        (with_reducible refine (HP.out _).mono ?_)
        rintro e w6 ⟨rfl, hb6⟩
        replace hS := hS.toN (Upd.of_below hb6 : Upd None0 _ w6)
        clear k0 k1 k2 k3
        obtain ⟨k0, k1, k2, k3⟩ := hS.cells4 1)
     | ((with_reducible refine gate_dst (N := 6) rfl ?_)
        refine sp_box hS rfl (N := 6) rfl #[.int .i64 0, .int .i64 0, .int .i64 0, .int .i64 0, .bool false, .int .i64 0, .int .u8 0] 39 zz9 ?_
        intro g6 w7 hg6 hS)
     | ((with_reducible refine gate_store (t := 39) (p := 6) (v := .tmp 53) rfl ?_)
        refine sp_row hS 0 rfl 39 (.tmp 6) (.tmp 53) rfl rfl g6 #[.int .i64 2, .int .i64 pos, .int .i64 cl, .int .i64 tag, .bool true, .int .i64 ln, .int .u8 0] rfl rfl 39 _ rfl zz13 rfl zz34 rfl ?_
        intro w8 hS
        clear k0 k1 k2 k3
        obtain ⟨k0, k1, k2, k3⟩ := hS.cells4 2
        obtain ⟨e0, e1, e2, e3, e4, e5, e6⟩ := hS.cells7 0)
     | ((with_reducible refine gate_store (t := 3) (p := 56) (v := .const (.int .i64 1)) rfl ?_)
        refine sp_cell hS 0 rfl 3 (.tmp 56) (.const (.int .i64 1)) rfl rfl g6 0 (.int .i64 1) rfl rfl 39 _ _ rfl zz13 zz28 rfl rfl rfl ?_
        clear k0 k1 k2 k3 e0 e1 e2 e3 e4 e5 e6
        intro w9 hS
        replace hS : Sp w None0 [blk g6 #[.int .i64 1, .int .i64 pos, .int .i64 cl, .int .i64 tag, .bool true, .int .i64 ln, .int .u8 0] 39, ck g (some .any), blk g1 #[.int .i64 cl, .int .i64 tag, .bool true, .int .i64 ln] 37] w9 := hS
        obtain ⟨k0, k1, k2, k3⟩ := hS.cells4 2
        obtain ⟨e0, e1, e2, e3, e4, e5, e6⟩ := hS.cells7 0)
     | (go_at_call 14
        replace hS := Sp.swap hS
        (with_reducible refine (HPU.out g _ (hS.ft 1) zz66).mono ?_)
        rintro e w10 ⟨rfl, hq⟩
        replace hS := hS.post1 hq
        clear k0 k1 k2 k3 e0 e1 e2 e3 e4 e5 e6
        obtain ⟨k0, k1, k2, k3⟩ := hS.cells4 2
        obtain ⟨e0, e1, e2, e3, e4, e5, e6⟩ := hS.cells7 1)
     | ((with_reducible refine gate_dst (N := 63) rfl ?_)
        go_loud (refine sp_lit k39 hS 39 rfl (N := 63) rfl [(⟨1, pos, ⟨cl, tag, true, ln⟩, 0⟩ : Ev)] [.int .i64 1, .int .i64 pos, .int .i64 cl, .int .i64 tag, .bool true, .int .i64 ln, .int .u8 0] zz9 (reps_one (k39_mkM _ _ _ _) rfl) zz28 ?_)
        intro A3 c3 w11 hS
        clear k0 k1 k2 k3
        obtain ⟨k0, k1, k2, k3⟩ := hS.cells4 3)
     | (go_at_call 13
        have hrd := hS.reads 0
        (with_reducible refine (HFI.out _ _ _ hrd).mono ?_)
        rintro e w12 ⟨rfl, hu12⟩
        replace hS := hS.toN hu12
        clear k0 k1 k2 k3 e0 e1 e2 e3 e4 e5 e6
        obtain ⟨k0, k1, k2, k3⟩ := hS.cells4 3))
    go_ret
    exact ⟨rfl, (Sp.u zz55).below0⟩
end Go.Proofs.Ytpfconocipmcjaa.Vp
namespace Go.Proofs.Ytpfconocipmcjaa.valueHeads
open Go.ChangeShapes Go.WideShapes Go.ChangeAt RowKit Go.Joins
open Go.ChangeMaps (open_string shut_string)
set_option linter.unusedVariables false
set_option linter.unusedSimpArgs false
theorem own : ownKnob Try.prog.godebug = none := by kernel_rfl
theorem laidOut : laidOutB Try.prog = true := by kernel_rfl
theorem cellsHead : Try.prog.cellsOf 37 = 4 := by kernel_rfl
set_option maxRecDepth 100000 in
theorem lifted (os : Os) (started : os.Started) (H : Type) (enc : TypeId × Value → H) :
 ReturnsInHanded {} Try.checked os 7 .any (Rows.valueHeadsSpec.pre6 enc Try.prog Try.f7 Rows.valueHeadsRow.domain false) (Rows.valueHeadsSpec.post enc Try.prog Try.f7 false true false false) := by
 refine returnsInHanded_of_change_sized (C := Try.checked) own started zz13 Try.func7
  (ChangeSpec.witness6 (enc := enc) (C := Try.checked) false ⟨#[], #[.agg #[.int .i64 0, .int .i64 0, .bool false, .int .i64 0]], []⟩ 8 zz13 zz13 zz13 zz13) ?_
 intro W base args ds gs before hval0 hW hcnd hsz0 _
 have hsz : (DataW.weightsEach Try.prog (Try.f7.params.toList ++ Rows.valueHeadsSpec.plain.varTypes Try.prog) (ds ++ gs)).all (· ≤ reachBytes) = true := hsz0
 have hval : ∀ (j : Nat) t v, Try.f7.params[j]? = some t → args[j]? = some v → Value.okWide Try.prog W .any base t v := hval0
 have hW' := hW
 obtain ⟨p, q, hA0, hV, rfl, hfz, hnd⟩ := hW
 have hA : DataW.TrodAll enc Try.prog W 0 (fun _ => true) true Try.f7.params.toList args.toList ds p := hA0
 rw [Try.params7] at hA hval hsz
 obtain ⟨v0, vs0, d0, ds0, p0, q0, hargs, rfl, rfl, h0, r0⟩ := trodAll_cons hA
 obtain ⟨rfl, rfl, rfl⟩ := trodAll_nil r0
 obtain rfl : args = #[v0] := by cases args; simp_all
 obtain ⟨rfl, rfl⟩ := trodVars_none hV
 have k0 := h0
 have lt0 : ∀ x ∈ p0, x.block < W.heap.size := by obtain ⟨m, hm⟩ := k0; exact DataW.trod_lt m _ _ _ hm
 obtain ⟨c0_0, c0_1, c0_2, c0_3, y0_0, y0_1, y0_2, y0_3, m0, rfl, hd0, hp0, t0_0, t0_1, t0_2, t0_3⟩ := open_agg4 Try.underlying37 zz13 cellsHead (hval 0 37 v0 rfl rfl) h0
 obtain ⟨a0_0, e0_0, z0_0, w0_0⟩ := DataW.trod_int Try.underlying3 t0_0
 simp only [List.cons.injEq, and_true] at e0_0
 subst e0_0
 obtain ⟨a0_1, e0_1, z0_1, w0_1⟩ := DataW.trod_int Try.underlying3 t0_1
 simp only [List.cons.injEq, and_true] at e0_1
 subst e0_1
 obtain ⟨a0_2, e0_2, z0_2⟩ := DataW.trod_bool Try.underlying4 t0_2
 simp only [List.cons.injEq, and_true] at e0_2
 subst e0_2
 obtain ⟨a0_3, e0_3, z0_3, w0_3⟩ := DataW.trod_int Try.underlying3 t0_3
 simp only [List.cons.injEq, and_true] at e0_3
 subst e0_3
 clear hA0 hval0 hsz0 hsz
 refine (Vp.heads_any a0_0 a0_1 a0_2 a0_3 W).mono fun e W' ⟨he, bel⟩ => ?_
 subst he
 exact ⟨_, rfl, _, _, _, [], _, [], hW', trodAll_mk1 (shut_bool Try.underlying4 _), (trodAll_cons_mk (Below.trod laidOut zz13 (of_decide_eq_true zz13) k0 bel lt0) trodAll_mk0), rfl, bel.frame _, fun h => by cases h⟩
theorem over : Rows.valueHeadsRow.holds Try.pinned (OpenSpec.ofChange Rows.valueHeadsSpec) :=
 OpenClaim.holds_of_wide 7 Try.f7 rfl rfl rfl rfl rfl rfl rfl ⟨rfl, rfl, rfl, rfl, rfl⟩ rfl rfl rfl rfl rfl zz13 Try.func7 zz13
  (of_decide_eq_true zz13) (by unfold Func.isWrapper; first | (rw [if_pos (by decide +kernel)]; kernel_rfl) | (rw [if_neg (by decide +kernel)]; exact ⟨rfl, rfl⟩))
  (fun os started H enc _ => lifted os started H enc)
theorem proved : Rows.ValueHeadsSaid := over
#print axioms proved
end Go.Proofs.Ytpfconocipmcjaa.valueHeads
namespace Go.Proofs.Ytpfconocipmcjaa
theorem valueHeads_holds : Rows.ValueHeadsSaid := valueHeads.proved
end Go.Proofs.Ytpfconocipmcjaa
