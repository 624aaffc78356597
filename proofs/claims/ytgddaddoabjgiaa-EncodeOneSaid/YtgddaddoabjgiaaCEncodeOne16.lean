/- The row of EncodeOne: for every input the law returns true; no condition. Made small by a program of this session (pack.py). -/
import Derived.Below
import Derived.ChangeOld
import Derived.Lib.SmallJoins
import Derived.OpenShut
import Derived.ProofKit
import Derived.ShutString
import Derived.SizedLaws
import Derived.Test.YtgddaddoabjgiaaRows
import Derived.WalkKit
import Derived.Test.YtgddaddoabjgiaaCEncodeOne2
import Derived.Test.YtgddaddoabjgiaaCEncodeOne15
namespace Go.Proofs.Ytgddaddoabjgiaa.At
open RowKit YtgddaddoabjgiaaW.PrintWords YtgddaddoabjgiaaW.PrintLast YtgddaddoabjgiaaW.PrintMore Own Sl Bs El Wr Oid Oidm Kn Cn Srt
set_option linter.unusedVariables false
set_option linter.unusedSimpArgs false
theorem tbsE_three1 (c : CR) : tbsE c = 0 ∨ tbsE c = 7 ∨ tbsE c = 8 := by
 unfold tbsE
 split
 ·
  split
  ·
   exact .inr (.inr rfl)
  ·
   exact .inl rfl
 ·
  exact .inr (.inl rfl)
set_option maxHeartbeats 8000000 in
set_option maxRecDepth 100000 in
theorem one_any (c d : CR) (a b : CA) (w : World) (hM : CrM w c a) (hM' : CrM w d b) (hR : Rng c) (hR' : Rng d) :
 Calls Try.prog 3 #[.agg (crc c a), .agg (crc d b)] w fun e w' => e = .returned (.bool true) ∧ Below w.heap.size w w' := by
 have hu := Try.underlying27
 have hu2 := Try.underlying34
 have hS := Sp.nil (w := w) (S := None0)
 have HAW := Aside0.mk (fun W => awake_any W)
 have HG1 := Aside0.mk (fun (W : World) (h : Upd None0 w W) => great_any c a W (hM.up h))
 have HG2 := Aside0.mk (fun (W : World) (h : Upd None0 w W) => great_any d b W (hM'.up h))
 have HC1 := Aside0.mk (fun (hp : CrP c) (W : World) (h : Upd None0 w W) => encode_any c a W (hM.up h) hp)
 have HC2 := Aside0.mk (fun (hp : CrP d) (W : World) (h : Upd None0 w W) => encode_any d b W (hM'.up h) hp)
 have HP := Aside0.mk (fun (h : GB c) => crp_of hR h)
 have HQ := Aside0.mk (fun (h : GB d) => crp_of hR' h)
 have HSM := Aside0.mk (show CrP c → CrP d → tbsE c = 0 → tbsE d = 0 → encR c = encR d → (c.v2 = d.v2 ∧ c.this = d.this ∧ c.next = d.next ∧ c.sg = d.sg ∧ c.ents.length = d.ents.length ∧ c.exts.length = d.exts.length ∧ c.alg.length = d.alg.length) ∧ ∀ (i : Nat) (x y : S34), c.ents[i]? = some x → d.ents[i]? = some y → EntS x y from
  fun h1 h2 h3 h4 h5 => have s := enc_same c d h1 h2 h3 h4 h5; ⟨⟨s.v2, s.this, s.next, s.sg, s.entsl, s.extsl, s.algl⟩, s.ents⟩)
 have HM5 := Aside0.mk hM.m5
 have HD5 := Aside0.mk hM'.m5
 have HLE := Aside0.mk (fun hp : CrP c => hp.entsl)
 have hcr : crc c a = #[.bool c.v2, .slice a.A1 c.alg.length a.c1, .slice a.A2 c.iss.length a.c2, .string c.this, .string c.next, .slice a.A5 c.ents.length a.c5, .slice a.A6 c.exts.length a.c6, .string c.sg] := rfl
 have hcd : crc d b = #[.bool d.v2, .slice b.A1 d.alg.length b.c1, .slice b.A2 d.iss.length b.c2, .string d.this, .string d.next, .slice b.A5 d.ents.length b.c5, .slice b.A6 d.exts.length b.c6, .string d.sg] := rfl
 rw [hcr] at HG1 HC1 ⊢
 rw [hcd] at HG2 HC2 ⊢
 have HE3 := tbsE_three1 c
 have HF3 := tbsE_three1 d
 obtain ⟨n1, hn1⟩ : ∃ z, c.alg.length = z := ⟨_, rfl⟩
 obtain ⟨n2, hn2⟩ : ∃ z, c.iss.length = z := ⟨_, rfl⟩
 obtain ⟨n5, hn5⟩ : ∃ z, c.ents.length = z := ⟨_, rfl⟩
 obtain ⟨n6, hn6⟩ : ∃ z, c.exts.length = z := ⟨_, rfl⟩
 obtain ⟨p1, hp1⟩ : ∃ z, d.alg.length = z := ⟨_, rfl⟩
 obtain ⟨p2, hp2⟩ : ∃ z, d.iss.length = z := ⟨_, rfl⟩
 obtain ⟨p5, hp5⟩ : ∃ z, d.ents.length = z := ⟨_, rfl⟩
 obtain ⟨p6, hp6⟩ : ∃ z, d.exts.length = z := ⟨_, rfl⟩
 rw [hn1, hn2, hn5, hn6] at HG1 HC1 ⊢
 rw [hp1, hp2, hp5, hp6] at HG2 HC2 ⊢
 rw [hn1, hn5, hn6, hp1, hp5, hp6] at HSM
 rw [hn5] at HM5 HLE
 rw [hp5] at HD5
 have HN5 := Aside0.mk hn5
 have HP5 := Aside0.mk hp5
 obtain ⟨X, hX⟩ : ∃ z, encR c = z := ⟨_, rfl⟩
 obtain ⟨Y, hY⟩ : ∃ z, encR d = z := ⟨_, rfl⟩
 obtain ⟨E, hE⟩ : ∃ z, tbsE c = z := ⟨_, rfl⟩
 obtain ⟨F, hF⟩ : ∃ z, tbsE d = z := ⟨_, rfl⟩
 rw [hX, hE] at HC1
 rw [hY, hF] at HC2
 rw [hX, hE, hY, hF] at HSM
 rw [hE] at HE3
 rw [hF] at HF3
 obtain ⟨A1, c1, A2, c2, A5, c5, A6, c6⟩ := a
 obtain ⟨B1, e1, B2, e2, B5, e5, B6, e6⟩ := b
 obtain ⟨v2, alg, iss, th, nx, ents, exts, sg⟩ := c
 obtain ⟨u2, blg, jss, ti, ny, fnts, fxts, tg⟩ := d
 dsimp only at HG1 HG2 HC1 HC2 HSM HM5 HD5 HN5 HP5 ⊢
 clear hM hM' hR hR' hcr hcd hX hY hE hF hn1 hn2 hn5 hn6 hp1 hp2 hp5 hp6
 go_enter Try.func3, Try.ntmps3
 go_upto_if 20 with (first
  | ((with_reducible refine gate_dst (N := 2) rfl ?_)
     refine sp_box hS rfl (N := 2) rfl #[.bool v2, .slice A1 n1 c1, .slice A2 n2 c2, .string th, .string nx, .slice A5 n5 c5, .slice A6 n6 c6, .string sg] 27 zz20 ?_
     intro ga w1 hg1 hS)
  | ((with_reducible refine gate_dst (N := 3) rfl ?_)
     refine sp_box hS rfl (N := 3) rfl #[.bool u2, .slice B1 p1 e1, .slice B2 p2 e2, .string ti, .string ny, .slice B5 p5 e5, .slice B6 p6 e6, .string tg] 27 zz20 ?_
     intro gb w1 hg1 hS
     obtain ⟨k0, k1, k2, k3, k4, k5, k6, k7⟩ := hS.cells8 1
     obtain ⟨q0, q1, q2, q3, q4, q5, q6, q7⟩ := hS.cells8 0)
  | (go_at_call 8
     (with_reducible refine (HAW.out _).mono ?_)
     rintro e w4 ⟨rfl, hun⟩
     replace hS := hS.toN hun
     clear k0 k1 k2 k3 k4 k5 k6 k7 q0 q1 q2 q3 q4 q5 q6 q7 hun
     obtain ⟨k0, k1, k2, k3, k4, k5, k6, k7⟩ := hS.cells8 1
     obtain ⟨q0, q1, q2, q3, q4, q5, q6, q7⟩ := hS.cells8 0)
  | (go_at_call 9
     (with_reducible refine (HG1.out _ hS.lt.u).mono ?_)
     rintro e w4 ⟨⟨b1, rfl, hb⟩, hun⟩
     replace hS := hS.toN hun
     have HB1 := Aside0.mk hb
     clear hb
     clear k0 k1 k2 k3 k4 k5 k6 k7 q0 q1 q2 q3 q4 q5 q6 q7 hun
     obtain ⟨k0, k1, k2, k3, k4, k5, k6, k7⟩ := hS.cells8 1
     obtain ⟨q0, q1, q2, q3, q4, q5, q6, q7⟩ := hS.cells8 0)
  | (go_at_call 9
     (with_reducible refine (HG2.out _ hS.lt.u).mono ?_)
     rintro e w4 ⟨⟨b2, rfl, hb⟩, hun⟩
     replace hS := hS.toN hun
     have HB2 := Aside0.mk hb
     clear hb
     clear k0 k1 k2 k3 k4 k5 k6 k7 q0 q1 q2 q3 q4 q5 q6 q7 hun
     obtain ⟨k0, k1, k2, k3, k4, k5, k6, k7⟩ := hS.cells8 1
     obtain ⟨q0, q1, q2, q3, q4, q5, q6, q7⟩ := hS.cells8 0))
 ·
  go_wp2_with (first
   | (go_at_call 8
      (with_reducible refine (HAW.out _).mono ?_)
      rintro e w4 ⟨rfl, hun⟩
      replace hS := hS.toN hun
      clear k0 k1 k2 k3 k4 k5 k6 k7 q0 q1 q2 q3 q4 q5 q6 q7 hun
      obtain ⟨k0, k1, k2, k3, k4, k5, k6, k7⟩ := hS.cells8 1
      obtain ⟨q0, q1, q2, q3, q4, q5, q6, q7⟩ := hS.cells8 0))
  go_ret
  exact ⟨rfl, hS.lt.u.below0⟩
 have hbf : b1 = false := by simpa using ‹¬b1 = true›
 subst hbf
 cases b2
 case true =>
  go_wp2_with (first
   | (go_at_call 8
      (with_reducible refine (HAW.out _).mono ?_)
      rintro e w4 ⟨rfl, hun⟩
      replace hS := hS.toN hun
      clear k0 k1 k2 k3 k4 k5 k6 k7 q0 q1 q2 q3 q4 q5 q6 q7 hun
      obtain ⟨k0, k1, k2, k3, k4, k5, k6, k7⟩ := hS.cells8 1
      obtain ⟨q0, q1, q2, q3, q4, q5, q6, q7⟩ := hS.cells8 0))
  go_ret
  exact ⟨rfl, hS.lt.u.below0⟩
 have hp := HP.out (HB1.out zz43)
 have hq := HQ.out (HB2.out zz43)
 have H1 := Aside0.mk (HC1.out hp)
 have H2 := Aside0.mk (HC2.out hq)
 have HSS := Aside0.mk (HSM.out hp hq)
 have HN := Aside0.mk (HLE.out hp)
 clear HC1 HC2 HP HQ HB1 HB2 HG1 HG2 HAW HSM HLE hp hq
 rcases HE3 with rfl | rfl | rfl
 case inr.inl =>
  go_wp2_with (first
   | (go_at_call 10
      (with_reducible refine (H1.out _ hS.lt.u).mono ?_)
      rintro e w4 ⟨rfl, hun⟩
      replace hS := hS.toN hun
      clear k0 k1 k2 k3 k4 k5 k6 k7 q0 q1 q2 q3 q4 q5 q6 q7 hun
      obtain ⟨k0, k1, k2, k3, k4, k5, k6, k7⟩ := hS.cells8 1
      obtain ⟨q0, q1, q2, q3, q4, q5, q6, q7⟩ := hS.cells8 0)
   | (go_at_call 10
      (with_reducible refine (H2.out _ hS.lt.u).mono ?_)
      rintro e w4 ⟨rfl, hun⟩
      replace hS := hS.toN hun
      clear k0 k1 k2 k3 k4 k5 k6 k7 q0 q1 q2 q3 q4 q5 q6 q7 hun
      obtain ⟨k0, k1, k2, k3, k4, k5, k6, k7⟩ := hS.cells8 1
      obtain ⟨q0, q1, q2, q3, q4, q5, q6, q7⟩ := hS.cells8 0))
  go_ret
  exact ⟨rfl, hS.lt.u.below0⟩
 case inr.inr =>
  go_wp2_with (first
   | (go_at_call 10
      (with_reducible refine (H1.out _ hS.lt.u).mono ?_)
      rintro e w4 ⟨rfl, hun⟩
      replace hS := hS.toN hun
      clear k0 k1 k2 k3 k4 k5 k6 k7 q0 q1 q2 q3 q4 q5 q6 q7 hun
      obtain ⟨k0, k1, k2, k3, k4, k5, k6, k7⟩ := hS.cells8 1
      obtain ⟨q0, q1, q2, q3, q4, q5, q6, q7⟩ := hS.cells8 0)
   | (go_at_call 10
      (with_reducible refine (H2.out _ hS.lt.u).mono ?_)
      rintro e w4 ⟨rfl, hun⟩
      replace hS := hS.toN hun
      clear k0 k1 k2 k3 k4 k5 k6 k7 q0 q1 q2 q3 q4 q5 q6 q7 hun
      obtain ⟨k0, k1, k2, k3, k4, k5, k6, k7⟩ := hS.cells8 1
      obtain ⟨q0, q1, q2, q3, q4, q5, q6, q7⟩ := hS.cells8 0))
  go_ret
  exact ⟨rfl, hS.lt.u.below0⟩
 rcases HF3 with rfl | rfl | rfl
 case inr.inl =>
  go_wp2_with (first
   | (go_at_call 10
      (with_reducible refine (H1.out _ hS.lt.u).mono ?_)
      rintro e w4 ⟨rfl, hun⟩
      replace hS := hS.toN hun
      clear k0 k1 k2 k3 k4 k5 k6 k7 q0 q1 q2 q3 q4 q5 q6 q7 hun
      obtain ⟨k0, k1, k2, k3, k4, k5, k6, k7⟩ := hS.cells8 1
      obtain ⟨q0, q1, q2, q3, q4, q5, q6, q7⟩ := hS.cells8 0)
   | (go_at_call 10
      (with_reducible refine (H2.out _ hS.lt.u).mono ?_)
      rintro e w4 ⟨rfl, hun⟩
      replace hS := hS.toN hun
      clear k0 k1 k2 k3 k4 k5 k6 k7 q0 q1 q2 q3 q4 q5 q6 q7 hun
      obtain ⟨k0, k1, k2, k3, k4, k5, k6, k7⟩ := hS.cells8 1
      obtain ⟨q0, q1, q2, q3, q4, q5, q6, q7⟩ := hS.cells8 0))
  go_ret
  exact ⟨rfl, hS.lt.u.below0⟩
 case inr.inr =>
  go_wp2_with (first
   | (go_at_call 10
      (with_reducible refine (H1.out _ hS.lt.u).mono ?_)
      rintro e w4 ⟨rfl, hun⟩
      replace hS := hS.toN hun
      clear k0 k1 k2 k3 k4 k5 k6 k7 q0 q1 q2 q3 q4 q5 q6 q7 hun
      obtain ⟨k0, k1, k2, k3, k4, k5, k6, k7⟩ := hS.cells8 1
      obtain ⟨q0, q1, q2, q3, q4, q5, q6, q7⟩ := hS.cells8 0)
   | (go_at_call 10
      (with_reducible refine (H2.out _ hS.lt.u).mono ?_)
      rintro e w4 ⟨rfl, hun⟩
      replace hS := hS.toN hun
      clear k0 k1 k2 k3 k4 k5 k6 k7 q0 q1 q2 q3 q4 q5 q6 q7 hun
      obtain ⟨k0, k1, k2, k3, k4, k5, k6, k7⟩ := hS.cells8 1
      obtain ⟨q0, q1, q2, q3, q4, q5, q6, q7⟩ := hS.cells8 0))
  go_ret
  exact ⟨rfl, hS.lt.u.below0⟩
 by_cases hXY : X = Y
 case neg =>
  have hne : (X.toList == Y.toList) = false := by
   rw [toList_beq, beq_eq_false_iff_ne]
   exact fun h => hXY (Bs.bytesOf_inj h)
  clear hXY HSS
  go_wp2_with (first
   | (go_at_call 10
      (with_reducible refine (H1.out _ hS.lt.u).mono ?_)
      rintro e w4 ⟨rfl, hun⟩
      replace hS := hS.toN hun
      clear k0 k1 k2 k3 k4 k5 k6 k7 q0 q1 q2 q3 q4 q5 q6 q7 hun
      obtain ⟨k0, k1, k2, k3, k4, k5, k6, k7⟩ := hS.cells8 1
      obtain ⟨q0, q1, q2, q3, q4, q5, q6, q7⟩ := hS.cells8 0)
   | (go_at_call 10
      (with_reducible refine (H2.out _ hS.lt.u).mono ?_)
      rintro e w4 ⟨rfl, hun⟩
      replace hS := hS.toN hun
      clear k0 k1 k2 k3 k4 k5 k6 k7 q0 q1 q2 q3 q4 q5 q6 q7 hun
      obtain ⟨k0, k1, k2, k3, k4, k5, k6, k7⟩ := hS.cells8 1
      obtain ⟨q0, q1, q2, q3, q4, q5, q6, q7⟩ := hS.cells8 0))
  go_ret
  exact ⟨rfl, hS.lt.u.below0⟩
 subst hXY
 obtain ⟨⟨hv, ht, hx, hg, h5, h6, h1⟩, hen⟩ := HSS.out rfl rfl rfl
 subst u2 ti ny tg p5 p6 p1
 have HEN := Aside0.mk hen
 clear HSS hen
 go_wp2_with (first
  | (go_at_call 10
     (with_reducible refine (H1.out _ hS.lt.u).mono ?_)
     rintro e w4 ⟨rfl, hun⟩
     replace hS := hS.toN hun
     clear k0 k1 k2 k3 k4 k5 k6 k7 q0 q1 q2 q3 q4 q5 q6 q7 hun
     obtain ⟨k0, k1, k2, k3, k4, k5, k6, k7⟩ := hS.cells8 1
     obtain ⟨q0, q1, q2, q3, q4, q5, q6, q7⟩ := hS.cells8 0)
  | (go_at_call 10
     (with_reducible refine (H2.out _ hS.lt.u).mono ?_)
     rintro e w4 ⟨rfl, hun⟩
     replace hS := hS.toN hun
     clear k0 k1 k2 k3 k4 k5 k6 k7 q0 q1 q2 q3 q4 q5 q6 q7 hun
     obtain ⟨k0, k1, k2, k3, k4, k5, k6, k7⟩ := hS.cells8 1
     obtain ⟨q0, q1, q2, q3, q4, q5, q6, q7⟩ := hS.cells8 0))
 go_loopg [99] n5 (fun gk v99 wr => ∃ (i : Nat), v99 = .int .i64 (i : Int) ∧ Aside0 (i ≤ n5 ∧ n5 - i ≤ gk) ∧ Aside0 (Sp w None0 [blk gb #[.bool v2, .slice B1 n1 e1, .slice B2 p2 e2, .string th, .string nx, .slice B5 n5 e5, .slice B6 n6 e6, .string sg] 27, blk ga #[.bool v2, .slice A1 n1 c1, .slice A2 n2 c2, .string th, .string nx, .slice A5 n5 c5, .slice A6 n6 c6, .string sg] 27] wr))
 case atStart => exact ⟨0, rfl, ⟨Nat.zero_le _, zz7⟩, ⟨by exact hS.lt⟩⟩
 case round =>
  clear hS k0 k1 k2 k3 k4 k5 k6 k7 q0 q1 q2 q3 q4 q5 q6 q7
  obtain ⟨i, rfl, HI, HS⟩ := hrel
  have hS := HS.out
  clear HS
  obtain ⟨k0, k1, k2, k3, k4, k5, k6, k7⟩ := hS.cells8 1
  obtain ⟨q0, q1, q2, q3, q4, q5, q6, q7⟩ := hS.cells8 0
  have hi00 : (0 : Int) ≤ (i : Int) := by omega
  by_cases hlt : i < n5
  case neg =>
   have hd : decide (i < n5) = false := decide_eq_false hlt
   have hd2 : decide ((i : Int) < (n5 : Int)) = false := decide_eq_false zz7
   clear hlt
   go_wp2
   go_ret
   exact ⟨rfl, hS.lt.u.below0⟩
  have hd : decide (i < n5) = true := decide_eq_true hlt
  have hd2 : decide ((i : Int) < (n5 : Int)) = true := decide_eq_true zz7
  have hlti : (i : Int) < (n5 : Int) := by omega
  have hil : i < ents.length := by rw [HN5.out]; exact hlt
  have hjl : i < fnts.length := by rw [HP5.out]; exact hlt
  have hxi := rd_some ents i z34 hil
  have hyi := rd_some fnts i z34 hjl
  obtain ⟨ad, A0, c0, rfl, h0, h1, h2, hl0, hi0⟩ := at_T34 HM5.out (i : Int) zz7 zz7
  obtain ⟨ae, B0, e0, rfl, g0, g1, g2, hl1, hi1⟩ := at_T34 HD5.out (i : Int) zz7 zz7
  replace h0 := up_cell hS.u h0
  replace h1 := up_cell hS.u h1
  replace h2 := up_cell hS.u h2
  rw [Int.toNat_natCast] at h0 h1 h2 g0 g1 g2
  obtain ⟨x, hx⟩ : ∃ x, rd_T34 ents (i : Int) = x := ⟨_, rfl⟩
  obtain ⟨y, hy⟩ : ∃ x, rd_T34 fnts (i : Int) = x := ⟨_, rfl⟩
  have hes := HEN.out i x y (hx ▸ hxi) (hy ▸ hyi)
  rw [hx] at h0 h1 h2
  rw [hy] at g0 g1 g2
  obtain ⟨s0, s1, s2⟩ := hes
  rw [← s0] at g0
  rw [← s1] at g1
  rw [← s2] at g2
  obtain ⟨m, hm⟩ : ∃ m, x.f2.length = m := ⟨_, rfl⟩
  rw [hm] at h2 g2
  have hw1 : IntKind.i64.wrap ((i : Int) + 1) = ((i + 1 : Nat) : Int) := by have := HN.out; rw [IntKind.wrap_i64]; omega
  obtain ⟨xs, xd, xe⟩ := x
  dsimp only at h0 h1 h2 g0 g1 g2
  have G := Aside0.mk (And.intro g0 (And.intro g1 g2))
  clear g0 g1 g2
  clear hil hjl hxi hyi hx hy s0 s1 s2 hl0 hi0 hl1 hi1 hm
  go_wp2_with (first
   | ((with_reducible refine gate_dst (N := 10) rfl ?_)
      refine sp_box hS rfl (N := 10) rfl #[.string ⟨#[]⟩, .string ⟨#[]⟩, .slice none 0 0] 34 zz20 ?_
      intro gx w3 hg3 hS)
   | ((with_reducible refine gate_store (t := 34) (p := 10) (v := .tmp 103) rfl ?_)
      refine sp_row hS 0 rfl 34 (.tmp 10) (.tmp 103) rfl rfl gx #[.string xs, .string xd, .slice A0 m c0] rfl rfl 34 _ rfl zz4 rfl zz82 rfl ?_
      intro w4 hS
      clear k0 k1 k2 k3 k4 k5 k6 k7 q0 q1 q2 q3 q4 q5 q6 q7
      obtain ⟨k0, k1, k2, k3, k4, k5, k6, k7⟩ := hS.cells8 2
      obtain ⟨q0, q1, q2, q3, q4, q5, q6, q7⟩ := hS.cells8 1
      obtain ⟨r0, r1, r2⟩ := hS.cells3 0
      have g0 := up_cell hS.u G.out.1
      have g1 := up_cell hS.u G.out.2.1
      have g2 := up_cell hS.u G.out.2.2
      clear h0 h1 h2))
  go_quiet (fail)
  go_wp2
  go_roundg (gk - 1)
  case measure => have := HI.out.2; omega
  case rel => exact ⟨i + 1, rfl, ⟨zz7, by have := HI.out.2; omega⟩, ⟨Sp.sel (l2 := [blk gb #[.bool v2, .slice B1 n1 e1, .slice B2 p2 e2, .string th, .string nx, .slice (some ae) n5 e5, .slice B6 n6 e6, .string sg] 27, blk ga #[.bool v2, .slice A1 n1 c1, .slice A2 n2 c2, .string th, .string nx, .slice (some ad) n5 c5, .slice A6 n6 c6, .string sg] 27]) hS.lt [1, 2]⟩⟩
end Go.Proofs.Ytgddaddoabjgiaa.At
namespace Go.Proofs.Ytgddaddoabjgiaa.encodeOne
open Go.ChangeShapes Go.WideShapes Go.ChangeAt RowKit Go.Joins
open Go.ChangeMaps (open_string shut_string)
set_option linter.unusedVariables false
set_option linter.unusedSimpArgs false
theorem own : ownKnob Try.prog.godebug = none := by kernel_rfl
theorem laidOut : laidOutB Try.prog = true := by kernel_rfl
set_option maxRecDepth 100000 in
theorem lifted (os : Os) (started : os.Started) (H : Type) (enc : TypeId × Value → H) :
 ReturnsInHanded {} Try.checked os 3 .any (Rows.encodeOneSpec.pre6 enc Try.prog Try.f3 Rows.encodeOneRow.domain false) (Rows.encodeOneSpec.post enc Try.prog Try.f3 false true false false) := by
 refine returnsInHanded_of_change_sized (C := Try.checked) own started zz4 Try.func3
  (ChangeSpec.witness6 (enc := enc) (C := Try.checked) false ⟨#[], #[.agg #[.bool false, .slice none 0 0, .slice none 0 0, .string ByteArray.empty, .string ByteArray.empty, .slice none 0 0, .slice none 0 0, .string ByteArray.empty], .agg #[.bool false, .slice none 0 0, .slice none 0 0, .string ByteArray.empty, .string ByteArray.empty, .slice none 0 0, .slice none 0 0, .string ByteArray.empty]], []⟩ 8 zz4 zz4 zz4 zz4) ?_
 intro W base args ds gs before hval0 hW hcnd hsz0 _
 have hsz : (DataW.weightsEach Try.prog (Try.f3.params.toList ++ Rows.encodeOneSpec.plain.varTypes Try.prog) (ds ++ gs)).all (· ≤ reachBytes) = true := hsz0
 have hval : ∀ (j : Nat) t v, Try.f3.params[j]? = some t → args[j]? = some v → Value.okWide Try.prog W .any base t v := hval0
 have hW' := hW
 obtain ⟨p, q, hA0, hV, rfl, hfz, hnd⟩ := hW
 have hA : DataW.TrodAll enc Try.prog W 0 (fun _ => true) true Try.f3.params.toList args.toList ds p := hA0
 rw [Try.params3] at hA hval hsz
 obtain ⟨v0, vs0, d0, ds0, p0, q0, hargs, rfl, rfl, h0, r0⟩ := trodAll_cons hA
 obtain ⟨v1, vs1, d1, ds1, p1, q1, rfl, rfl, rfl, h1, r1⟩ := trodAll_cons r0
 obtain ⟨rfl, rfl, rfl⟩ := trodAll_nil r1
 obtain rfl : args = #[v0, v1] := by cases args; simp_all
 obtain ⟨rfl, rfl⟩ := trodVars_none hV
 have k0 := h0
 have lt0 : ∀ x ∈ p0, x.block < W.heap.size := by obtain ⟨m, hm⟩ := k0; exact DataW.trod_lt m _ _ _ hm
 obtain ⟨c0, a0, rfl, m0, g0⟩ := BCr.crl_open (hval 0 27 v0 rfl rfl) h0
 have k1 := h1
 have lt1 : ∀ x ∈ p1, x.block < W.heap.size := by obtain ⟨m, hm⟩ := k1; exact DataW.trod_lt m _ _ _ hm
 obtain ⟨c1, a1, rfl, m1, g1⟩ := BCr.crl_open (hval 1 27 v1 rfl rfl) h1
 clear hA0 hval0 hsz0 hsz
 refine (At.one_any c0 c1 a0 a1 W m0 m1 g0 g1).mono fun e W' ⟨he, bel⟩ => ?_
 subst he
 exact ⟨_, rfl, _, _, _, [], _, [], hW', trodAll_mk1 (shut_bool Try.underlying4 _), (trodAll_cons_mk (Below.trod laidOut zz4 (of_decide_eq_true zz4) k0 bel lt0) (trodAll_cons_mk (Below.trod laidOut zz4 (of_decide_eq_true zz4) k1 bel lt1) trodAll_mk0)), rfl, bel.frame _, fun h => by cases h⟩
theorem over : Rows.encodeOneRow.holds Try.pinned (OpenSpec.ofChange Rows.encodeOneSpec) :=
 OpenClaim.holds_of_wide 3 Try.f3 rfl rfl rfl rfl rfl rfl rfl ⟨rfl, rfl, rfl, rfl, rfl⟩ rfl rfl rfl rfl rfl zz4 Try.func3 zz4
  (of_decide_eq_true zz4) (by unfold Func.isWrapper; first | (rw [if_pos (by decide +kernel)]; kernel_rfl) | (rw [if_neg (by decide +kernel)]; exact ⟨rfl, rfl⟩))
  (fun os started H enc _ => lifted os started H enc)
theorem proved : Rows.EncodeOneSaid := over
#print axioms proved
end Go.Proofs.Ytgddaddoabjgiaa.encodeOne
namespace Go.Proofs.Ytgddaddoabjgiaa
theorem encodeOne_holds : Rows.EncodeOneSaid := encodeOne.proved
end Go.Proofs.Ytgddaddoabjgiaa
