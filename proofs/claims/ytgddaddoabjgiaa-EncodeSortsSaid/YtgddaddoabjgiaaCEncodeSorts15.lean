/- The row of EncodeSorts: for every input the law returns true; no condition. Made small by a program of this session (pack.py). -/
import Derived.Below
import Derived.ChangeOld
import Derived.Deep.SlicePairs
import Derived.Deep.Strs
import Derived.Lib.SmallJoins
import Derived.OpenShut
import Derived.ProofKit
import Derived.ShutString
import Derived.SizedLaws
import Derived.Test.YtgddaddoabjgiaaRows
import Derived.WalkKit
import Derived.Test.YtgddaddoabjgiaaCEncodeSorts2
import Derived.Test.YtgddaddoabjgiaaCEncodeSorts3
import Derived.Test.YtgddaddoabjgiaaCEncodeSorts12
import Derived.Test.YtgddaddoabjgiaaCEncodeSorts13
import Derived.Test.YtgddaddoabjgiaaCEncodeSorts14
namespace Go.Proofs.Ytgddaddoabjgiaa.At
open RowKit YtgddaddoabjgiaaW.PrintWords YtgddaddoabjgiaaW.PrintLast YtgddaddoabjgiaaW.PrintMore Own Sl Bs El Wr Oid Oidm Kn Cn Srt
set_option linter.unusedVariables false
set_option linter.unusedSimpArgs false
def bitb (s : ByteArray) : ByteArray := elb 0 3 false ((⟨#[0]⟩ : ByteArray) ++ s)
noncomputable def encb (c : CR) : ByteArray := elb 0 16 true (cat [tbsb c, algb c.alg, bitb c.sg])
noncomputable def encR (c : CR) : ByteArray := if tbsE c = 0 then encb c else ByteArray.empty
theorem tbsE_ok {c : CR} (h : tbsE c = 0) : tbsOk c = true := by
 unfold tbsE at h
 cases hk : tbsOk c with
 | true => rfl
 | false => rw [hk] at h; simp at h
theorem tbsl_size (c : CR) (hP : CrP c) (h : tbsOk c = true) : (cat (tbsl c)).size ≤ 90000000 := by
 have z0 : (elb 0 2 false ⟨#[1]⟩).size ≤ 15 := (elb_size (c := 0) (t := 2) false (s := ⟨#[1]⟩) ⟨zz13, zz13, zz13, zz13⟩ zz13).2
 have z2 := nameb_size c.iss hP.issl hP.iss
 have za := algb_size c.alg hP.alg
 have z6 := extsb_size c.exts hP.extsl hP.exts
 have zeb := entsb_size c.ents hP.entsl hP.ents
 have zx := (elb_size (c := 2) (t := 0) true (s := extsb c.exts) ⟨zz13, zz13, zz13, zz13⟩ zz7).2
 unfold tbsOk at h
 simp only [Bool.and_eq_true, Bool.or_eq_true, decide_eq_true_eq] at h
 obtain ⟨⟨⟨⟨⟨h1, h2⟩, h3⟩, h4⟩, h5⟩, h6⟩ := h
 have z3 := datb_size c.this h3
 have a1 : (cat (if c.v2 = true then [elb 0 2 false ⟨#[1]⟩] else [])).size ≤ 15 := by split; simp [cat]; omega; simp [cat]
 have a2 : (cat [algb c.alg, nameb c.iss, datb c.this]).size ≤ 10200000 := by rw [cat_count]; simp only [List.map_cons, List.map_nil, List.sum_cons, List.sum_nil]; omega
 have a3 : (cat (if c.next.isEmpty = true then [] else [datb c.next])).size ≤ 29 := by
  split
  ·
   simp [cat]
  ·
   rename_i hn; have := datb_size c.next (h4.resolve_left hn); simp [cat]; omega
 have a4 : (cat (if c.ents.length = 0 then [] else [entsb c.ents])).size ≤ 60400300 := by split; simp [cat]; simp [cat]; omega
 have a5 : (cat (if c.exts.length = 0 then [] else [elb 2 0 true (extsb c.exts)])).size ≤ 3010100 := by split; simp [cat]; simp [cat]; omega
 unfold tbsl
 rw [cat_append, cat_append, cat_append, cat_append, ByteArray.size_append, ByteArray.size_append, ByteArray.size_append, ByteArray.size_append]
 omega
theorem tbsb_size (c : CR) (hP : CrP c) (h : tbsOk c = true) : (tbsb c).size ≤ 90000014 := by
 have h1 := tbsl_size c hP h
 have := (elb_size (c := 0) (t := 16) true (s := cat (tbsl c)) ⟨zz13, zz13, zz13, zz13⟩ zz7).2
 unfold tbsb
 omega
theorem bitb_size (s : ByteArray) (h : s.size ≤ 1000) : (bitb s).size ≤ 1015 := by
 have e : ((⟨#[0]⟩ : ByteArray) ++ s).size = 1 + s.size := ByteArray.size_append
 have := (elb_size (c := 0) (t := 3) false (s := (⟨#[0]⟩ : ByteArray) ++ s) ⟨zz13, zz13, zz13, zz13⟩ zz7).2
 unfold bitb
 omega
set_option maxHeartbeats 8000000 in
set_option maxRecDepth 100000 in
theorem encode_any (c : CR) (a : CA) (w : World) (hM : CrM w c a) (hP : CrP c) :
 Calls Try.prog 10 #[.agg (crc c a)] w fun e w' => e = .returned (.tuple #[.string (encR c), .int .i64 (tbsE c)]) ∧ Upd None0 w w' := by
 have hu := Try.underlying27
 have hS := Sp.nil (w := w) (S := None0)
 have HTB := Aside0.mk (fun (W : World) (h : Upd None0 w W) => tbs_any c a W (hM.up h) hP)
 have HAL := Aside0.mk (fun (W : World) (h : Upd None0 w W) => alg_any a.A1 a.c1 c.alg c.v2 a.A2 a.A5 a.A6 c.iss.length a.c2 c.ents.length a.c5 c.exts.length a.c6 c.this c.next c.sg W (hM.up h).m1 hM.l1 hP.alg)
 have HBT := Aside0.mk (fun W => bit_any c.sg W (by have := hP.sg; omega))
 have e0 : ((⟨#[0]⟩ : ByteArray) ++ c.sg).size = 1 + c.sg.size := ByteArray.size_append
 have HL3 := Aside0.mk (fun W => leaf_any 3 ((⟨#[0]⟩ : ByteArray) ++ c.sg) W (by have := hP.sg; omega))
 rw [leafb_ok _ zz13] at HL3
 have hb3 : elb 0 3 false ((⟨#[0]⟩ : ByteArray) ++ c.sg) = bitb c.sg := rfl
 rw [hb3] at HL3
 have zb := bitb_size c.sg hP.sg
 have za := algb_size c.alg hP.alg
 have hz : tbsE c = 0 → (cat [tbsb c, algb c.alg, bitb c.sg]).size ≤ 100000000 := fun h => by
  have := tbsb_size c hP (tbsE_ok h)
  rw [cat_count]; simp only [List.map_cons, List.map_nil, List.sum_cons, List.sum_nil]; omega
 have hcr : crc c a = #[.bool c.v2, .slice a.A1 c.alg.length a.c1, .slice a.A2 c.iss.length a.c2, .string c.this, .string c.next, .slice a.A5 c.ents.length a.c5, .slice a.A6 c.exts.length a.c6, .string c.sg] := rfl
 rw [hcr] at HTB ⊢
 by_cases h0 : tbsE c = 0
 ·
  have hok := tbsE_ok h0
  have hoid : oidOk c.alg = true := by
   unfold tbsOk at hok
   simp only [Bool.and_eq_true] at hok
   exact hok.1.1.1.1.1
  have hzz := hz h0
  have hR : encR c = elb 0 16 true (cat [tbsb c, algb c.alg, bitb c.sg]) := by unfold encR; rw [if_pos h0]; rfl
  have hT : tbsR c = tbsb c := by unfold tbsR; rw [if_pos h0]
  rw [hT, h0] at HTB
  rw [hoid] at HAL
  simp only [if_true] at HAL
  rw [hR, h0]
  obtain ⟨x1, hx1⟩ : ∃ z, tbsb c = z := ⟨_, rfl⟩
  obtain ⟨x2, hx2⟩ : ∃ z, algb c.alg = z := ⟨_, rfl⟩
  obtain ⟨x3, hx3⟩ : ∃ z, bitb c.sg = z := ⟨_, rfl⟩
  rw [hx1] at HTB hzz ⊢
  rw [hx2] at HAL hzz ⊢
  rw [hx3] at HL3 hzz ⊢
  obtain ⟨Y, hY⟩ : ∃ z, elb 0 16 true (cat [x1, x2, x3]) = z := ⟨_, rfl⟩
  rw [hY]
  have HY := Aside0.mk hY
  have HZ := Aside0.mk hzz
  obtain ⟨n1, hn1⟩ : ∃ z, c.alg.length = z := ⟨_, rfl⟩
  obtain ⟨n2, hn2⟩ : ∃ z, c.iss.length = z := ⟨_, rfl⟩
  obtain ⟨n5, hn5⟩ : ∃ z, c.ents.length = z := ⟨_, rfl⟩
  obtain ⟨n6, hn6⟩ : ∃ z, c.exts.length = z := ⟨_, rfl⟩
  rw [hn1, hn2, hn5, hn6] at HTB HAL ⊢
  obtain ⟨A1, c1, A2, c2, A5, c5, A6, c6⟩ := a
  dsimp only at HTB HAL ⊢
  obtain ⟨v2, alg, iss, th, nx, ents, exts, sg⟩ := c
  dsimp only at HTB HAL HBT HL3 ⊢
  obtain ⟨x4, hx4⟩ : ∃ z, (⟨#[0]⟩ : ByteArray) ++ sg = z := ⟨_, rfl⟩
  rw [hx4] at HBT HL3
  clear hM hP hcr hb3 zb za hz h0 hok hoid hzz hR hT hx1 hx2 hx3 hY hn1 hn2 hn5 hn6 hx4 e0
  go_enter Try.func10, Try.ntmps10
  go_wp2_with (first
   | ((with_reducible refine gate_dst (N := 1) rfl ?_)
      refine sp_box hS rfl (N := 1) rfl #[.bool v2, .slice A1 n1 c1, .slice A2 n2 c2, .string th, .string nx, .slice A5 n5 c5, .slice A6 n6 c6, .string sg] 27 zz20 ?_
      intro ga w1 hg1 hS
      obtain ⟨k0, k1, k2, k3, k4, k5, k6, k7⟩ := hS.cells8 0)
   | (go_at_call 12
      (with_reducible refine (HTB.out _ hS.lt.u).mono ?_)
      rintro e w2 ⟨rfl, hun⟩
      replace hS := hS.toN hun
      clear k0 k1 k2 k3 k4 k5 k6 k7 hun
      obtain ⟨k0, k1, k2, k3, k4, k5, k6, k7⟩ := hS.cells8 0)
   | (go_at_call 22
      (with_reducible refine (HAL.out _ hS.lt.u).mono ?_)
      rintro e w2 ⟨rfl, hun⟩
      replace hS := hS.toN hun
      clear k0 k1 k2 k3 k4 k5 k6 k7 hun
      obtain ⟨k0, k1, k2, k3, k4, k5, k6, k7⟩ := hS.cells8 0)
   | (go_at_call 23
      (with_reducible refine (HBT.out _).mono ?_)
      rintro e w2 ⟨rfl, hun⟩
      replace hS := hS.toN hun
      clear k0 k1 k2 k3 k4 k5 k6 k7 hun)
   | (go_at_call 25
      (with_reducible refine (HL3.out _).mono ?_)
      rintro e w2 ⟨rfl, hun⟩
      replace hS := hS.toN hun)
   | ((with_reducible refine gate_dst (N := 33) rfl ?_)
      refine sp_lit Kd.string hS 9 rfl (N := 33) rfl [x1, x2, x3] [.string x1, .string x2, .string x3] zz20 (Reps.one rfl (Reps.one rfl (Reps.one rfl (Reps.none _ _)))) zz43 ?_
      intro A0 c0 w3 hS
      have HAA := Aside0.mk (show Calls Try.prog 24 #[.int .i64 16, .slice A0 3 c0] w3 fun e w' => e = .returned (.string Y) ∧ Upd None0 w3 w' from by
       have h := all_any (t := 16) A0 c0 [x1, x2, x3] w3 _ zz13 (hS.row 0) HZ.out zz43
       rw [HY.out] at h
       exact h))
   | (go_at_call 24
      (with_reducible refine HAA.out.mono ?_)
      rintro e w2 ⟨rfl, hun⟩
      replace hS := hS.toN hun))
  go_ret2
  exact ⟨rfl, hS.lt.u⟩
 ·
  have hR : encR c = ByteArray.empty := by unfold encR; rw [if_neg h0]
  have hT : tbsR c = ByteArray.empty := by unfold tbsR; rw [if_neg h0]
  have hE : tbsE c = 7 ∨ tbsE c = 8 := by
   unfold tbsE at h0 ⊢
   split at h0
   ·
    rename_i h1
    rw [if_pos h1]
    split at h0
    ·
     rename_i h2; rw [if_pos h2]; exact .inr rfl
    ·
     exact absurd rfl h0
   ·
    rename_i h1; rw [if_neg h1]; exact .inl rfl
  rw [hT] at HTB
  rw [hR]
  obtain ⟨n1, hn1⟩ : ∃ z, c.alg.length = z := ⟨_, rfl⟩
  obtain ⟨n2, hn2⟩ : ∃ z, c.iss.length = z := ⟨_, rfl⟩
  obtain ⟨n5, hn5⟩ : ∃ z, c.ents.length = z := ⟨_, rfl⟩
  obtain ⟨n6, hn6⟩ : ∃ z, c.exts.length = z := ⟨_, rfl⟩
  rw [hn1, hn2, hn5, hn6] at HTB ⊢
  obtain ⟨E, hEE⟩ : ∃ z, tbsE c = z := ⟨_, rfl⟩
  rw [hEE] at HTB hE ⊢
  obtain ⟨A1, c1, A2, c2, A5, c5, A6, c6⟩ := a
  dsimp only at HTB ⊢
  obtain ⟨v2, alg, iss, th, nx, ents, exts, sg⟩ := c
  dsimp only at HTB ⊢
  clear hM hP hcr hb3 zb za hz h0 hR hT hn1 hn2 hn5 hn6 e0 hEE HL3 HBT HAL
  rcases hE with rfl | rfl
  all_goals
   go_enter Try.func10, Try.ntmps10
   go_wp2_with (first
    | ((with_reducible refine gate_dst (N := 1) rfl ?_)
       refine sp_box hS rfl (N := 1) rfl #[.bool v2, .slice A1 n1 c1, .slice A2 n2 c2, .string th, .string nx, .slice A5 n5 c5, .slice A6 n6 c6, .string sg] 27 zz20 ?_
       intro ga w1 hg1 hS
       obtain ⟨k0, k1, k2, k3, k4, k5, k6, k7⟩ := hS.cells8 0)
    | (go_at_call 12
       (with_reducible refine (HTB.out _ hS.lt.u).mono ?_)
       rintro e w2 ⟨rfl, hun⟩
       replace hS := hS.toN hun))
   go_ret2
   exact ⟨rfl, hS.lt.u⟩
set_option maxHeartbeats 8000000 in
set_option maxRecDepth 100000 in
theorem rencode_any (c : CR) (a : CA) (w : World) (hM : CrM w c a) (hP : CrP c) :
 Calls Try.prog 11 #[.agg (crc c a)] w fun e w' => e = .returned (.tuple #[.string (encR c), .int .i64 (tbsE c)]) ∧ Upd None0 w w' := by
 have hu := Try.underlying27
 have hS := Sp.nil (w := w) (S := None0)
 have HTB := Aside0.mk (fun (W : World) (h : Upd None0 w W) => rtbs_any c a W (hM.up h) hP)
 have HID := Aside0.mk (fun (W : World) (h : Upd None0 w W) => rid_any a.A1 a.c1 c.alg W (hM.up h).m1 hM.l1 hP.alg)
 have e0 : ((⟨#[0]⟩ : ByteArray) ++ c.sg).size = 1 + c.sg.size := ByteArray.size_append
 have H5 := Aside0.mk (show ∀ W, Calls Try.prog 28 #[.int .i64 5, .string ⟨#[]⟩] W fun e w' => e = .returned (.string (elb 0 5 false ByteArray.empty)) ∧ Upd None0 W w' from fun W => rleaf_ok (t := 5) ByteArray.empty W zz13 zz13)
 have HL3 := Aside0.mk (fun W => rleaf_ok (t := 3) ((⟨#[0]⟩ : ByteArray) ++ c.sg) W zz13 (by have := hP.sg; omega))
 have hb3 : elb 0 3 false ((⟨#[0]⟩ : ByteArray) ++ c.sg) = bitb c.sg := rfl
 rw [hb3] at HL3
 have z1 := idb_size c.alg hP.alg
 have z5 : (elb 0 5 false ByteArray.empty).size ≤ 14 := (elb_size (c := 0) (t := 5) false ⟨zz13, zz13, zz13, zz13⟩ zz13).2
 have HSA := Aside0.mk (fun (W : World) => rseq_ok (idb c.alg ++ elb 0 5 false ByteArray.empty) W (by rw [ByteArray.size_append]; omega))
 have hab : elb 0 16 true (idb c.alg ++ elb 0 5 false ByteArray.empty) = algb c.alg := rfl
 rw [hab] at HSA
 have zb := bitb_size c.sg hP.sg
 have za := algb_size c.alg hP.alg
 have zs := hP.sg
 have hcat : cat [tbsb c, algb c.alg, bitb c.sg] = (tbsb c ++ algb c.alg) ++ bitb c.sg := by simp [cat, ByteArray.append_assoc]
 have hz : tbsE c = 0 → (tbsb c).size ≤ 90000014 := fun h => tbsb_size c hP (tbsE_ok h)
 have hcr : crc c a = #[.bool c.v2, .slice a.A1 c.alg.length a.c1, .slice a.A2 c.iss.length a.c2, .string c.this, .string c.next, .slice a.A5 c.ents.length a.c5, .slice a.A6 c.exts.length a.c6, .string c.sg] := rfl
 rw [hcr] at HTB ⊢
 by_cases h0 : tbsE c = 0
 ·
  have hok := tbsE_ok h0
  have hoid : oidOk c.alg = true := by
   unfold tbsOk at hok
   simp only [Bool.and_eq_true] at hok
   exact hok.1.1.1.1.1
  have hzz := hz h0
  have hR : encR c = elb 0 16 true ((tbsb c ++ algb c.alg) ++ bitb c.sg) := by rw [← hcat]; unfold encR; rw [if_pos h0]; rfl
  have hT : tbsR c = tbsb c := by unfold tbsR; rw [if_pos h0]
  have HSQ := Aside0.mk (fun (W : World) => rseq_ok ((tbsb c ++ algb c.alg) ++ bitb c.sg) W (by rw [ByteArray.size_append, ByteArray.size_append]; omega))
  rw [← hR] at HSQ
  rw [hT, h0] at HTB
  rw [hoid] at HID
  rw [h0]
  obtain ⟨Y, hY⟩ : ∃ z, encR c = z := ⟨_, rfl⟩
  rw [hY] at HSQ ⊢
  obtain ⟨x1, hx1⟩ : ∃ z, tbsb c = z := ⟨_, rfl⟩
  obtain ⟨x2, hx2⟩ : ∃ z, algb c.alg = z := ⟨_, rfl⟩
  obtain ⟨x3, hx3⟩ : ∃ z, bitb c.sg = z := ⟨_, rfl⟩
  obtain ⟨x5, hx5⟩ : ∃ z, elb 0 5 false ByteArray.empty = z := ⟨_, rfl⟩
  obtain ⟨x6, hx6⟩ : ∃ z, idb c.alg = z := ⟨_, rfl⟩
  rw [hx1] at HTB HSQ hzz
  rw [hx2] at HSA HSQ za
  rw [hx3] at HL3 HSQ zb
  rw [hx5] at H5 HSA z5
  rw [hx6] at HID HSA z1
  obtain ⟨n1, hn1⟩ : ∃ z, c.alg.length = z := ⟨_, rfl⟩
  obtain ⟨n2, hn2⟩ : ∃ z, c.iss.length = z := ⟨_, rfl⟩
  obtain ⟨n5, hn5⟩ : ∃ z, c.ents.length = z := ⟨_, rfl⟩
  obtain ⟨n6, hn6⟩ : ∃ z, c.exts.length = z := ⟨_, rfl⟩
  rw [hn1, hn2, hn5, hn6] at HTB
  rw [hn1] at HID
  rw [hn1, hn2, hn5, hn6]
  obtain ⟨A1, c1, A2, c2, A5, c5, A6, c6⟩ := a
  dsimp only at HTB HID ⊢
  obtain ⟨v2, alg, iss, th, nx, ents, exts, sg⟩ := c
  dsimp only at HTB HID HL3 e0 zs ⊢
  have s1 : ¬ 9223372036854775807 < x6.size + x5.size := by omega
  have s2 : x6.size + x5.size ≤ 9223372036854775807 := by omega
  have s3 : ¬ 9223372036854775807 < x1.size + x2.size := by omega
  have s4 : x1.size + x2.size ≤ 9223372036854775807 := by omega
  have s5 : ¬ 9223372036854775807 < (x1 ++ x2).size + x3.size := by rw [ByteArray.size_append]; omega
  have s6 : (x1 ++ x2).size + x3.size ≤ 9223372036854775807 := by rw [ByteArray.size_append]; omega
  have s5b : ¬ 9223372036854775807 < x1.size + x2.size + x3.size := by omega
  have s6b : x1.size + x2.size + x3.size ≤ 9223372036854775807 := by omega
  have s7 : ¬ 9223372036854775807 < 1 + sg.size := by omega
  have s8 : 1 + sg.size ≤ 9223372036854775807 := by omega
  have s9 : (⟨#[0]⟩ : ByteArray).size = 1 := rfl
  clear hM hP hcr hb3 zb za hz h0 hok hoid hzz hR hT hx1 hx2 hx3 hx5 hx6 hY hn1 hn2 hn5 hn6 e0 z1 z5 hab hcat zs
  go_enter Try.func11, Try.ntmps11
  go_wp2_with (first
   | ((with_reducible refine gate_dst (N := 1) rfl ?_)
      refine sp_box hS rfl (N := 1) rfl #[.bool v2, .slice A1 n1 c1, .slice A2 n2 c2, .string th, .string nx, .slice A5 n5 c5, .slice A6 n6 c6, .string sg] 27 zz20 ?_
      intro ga w1 hg1 hS
      obtain ⟨k0, k1, k2, k3, k4, k5, k6, k7⟩ := hS.cells8 0)
   | (go_at_call 13
      (with_reducible refine (HTB.out _ hS.lt.u).mono ?_)
      rintro e w2 ⟨rfl, hun⟩
      replace hS := hS.toN hun
      clear k0 k1 k2 k3 k4 k5 k6 k7 hun
      obtain ⟨k0, k1, k2, k3, k4, k5, k6, k7⟩ := hS.cells8 0)
   | (go_at_call 26
      (with_reducible refine (HID.out _ hS.lt.u).mono ?_)
      rintro e w2 ⟨rfl, hun⟩
      replace hS := hS.toN hun
      clear k0 k1 k2 k3 k4 k5 k6 k7 hun))
  ·
   refine wp_region_held_drew (S := fun W => W.cell? ⟨ga, 7, none⟩ = some (.string sg)) zz4 (hS.cellW 0 7 _ rfl rfl) (fun hHeld => ?_)
   refine tk 0 (v := ?_) rfl zz4 zz4 zz4 (fun _ _ _ h => h) zz37 (Or.inl ⟨zz54, ?_⟩) ?_
   rotate_left 1
   ·
    (intro w hSw; (try dsimp only at hSw); go_simp; try with_reducible rfl)
   try simp only [Act.put, List.setIfInBounds_toArray, List.set_cons_zero, List.set_cons_succ]
   refine tk 1 (v := ?_) rfl zz4 zz4 zz4 (fun _ _ _ h => h) zz37 (Or.inl ⟨zz54, ?_⟩) ?_
   rotate_left 1
   ·
    (intro w hSw; (try dsimp only at hSw); go_simp; try with_reducible rfl)
   try simp only [Act.put, List.setIfInBounds_toArray, List.set_cons_zero, List.set_cons_succ]
   refine tk 6 (v := ?_) rfl zz4 zz4 zz4 (fun _ _ _ h => h) zz37 (Or.inl ⟨zz54, ?_⟩) ?_
   rotate_left 1
   ·
    (intro w hSw; (try dsimp only at hSw); go_simp; try with_reducible rfl)
   try simp only [Act.put, List.setIfInBounds_toArray, List.set_cons_zero, List.set_cons_succ]
   refine tk 7 (v := ?_) rfl zz4 zz4 zz4 (fun _ _ _ h => h) zz37 (Or.inl ⟨zz54, ?_⟩) ?_
   rotate_left 1
   ·
    (intro w hSw; (try dsimp only at hSw); go_simp; try with_reducible rfl)
   try simp only [Act.put, List.setIfInBounds_toArray, List.set_cons_zero, List.set_cons_succ]
   refine tk 8 (v := ?_) rfl zz4 zz4 zz4 (fun _ _ _ h => h) zz37 (Or.inl ⟨zz54, ?_⟩) ?_
   rotate_left 1
   ·
    (intro w hSw; (try dsimp only at hSw); go_simp; try with_reducible rfl)
   try simp only [Act.put, List.setIfInBounds_toArray, List.set_cons_zero, List.set_cons_succ]
   refine alone 2 rfl zz4 zz54 (fun K hK => ?_)
   go_simp
   go_at_call 28
   (with_reducible refine (H5.out _).mono ?_)
   rintro e w5 ⟨rfl, hun⟩
   replace hS := hS.toN hun
   clear hun hHeld
   refine hK.out _ _ ?_ (fun hHeld => ?_)
   ·
    exact hS.cellW 0 7 _ rfl rfl
   clear hK K
   try simp only [Act.put, List.setIfInBounds_toArray, List.set_cons_zero, List.set_cons_succ]
   refine tk 3 (v := ?_) rfl zz4 zz4 zz4 (fun _ _ _ h => h) zz37 (Or.inl ⟨zz54, ?_⟩) ?_
   rotate_left 1
   ·
    (intro w hSw; (try dsimp only at hSw); go_simp; try with_reducible rfl)
   try simp only [Act.put, List.setIfInBounds_toArray, List.set_cons_zero, List.set_cons_succ]
   refine alone 4 rfl zz4 zz54 (fun K hK => ?_)
   go_simp
   go_at_call 27
   (with_reducible refine (HSA.out _).mono ?_)
   rintro e w5 ⟨rfl, hun⟩
   replace hS := hS.toN hun
   clear hun hHeld
   refine hK.out _ _ ?_ (fun hHeld => ?_)
   ·
    exact hS.cellW 0 7 _ rfl rfl
   clear hK K
   try simp only [Act.put, List.setIfInBounds_toArray, List.set_cons_zero, List.set_cons_succ]
   refine tk 5 (v := ?_) rfl zz4 zz4 zz4 (fun _ _ _ h => h) zz37 (Or.inl ⟨zz54, ?_⟩) ?_
   rotate_left 1
   ·
    (intro w hSw; (try dsimp only at hSw); go_simp; try with_reducible rfl)
   try simp only [Act.put, List.setIfInBounds_toArray, List.set_cons_zero, List.set_cons_succ]
   refine alone 9 rfl zz4 zz54 (fun K hK => ?_)
   go_simp
   go_at_call 28
   (with_reducible refine (HL3.out _).mono ?_)
   rintro e w5 ⟨rfl, hun⟩
   replace hS := hS.toN hun
   clear hun hHeld
   refine hK.out _ _ ?_ (fun hHeld => ?_)
   ·
    exact hS.cellW 0 7 _ rfl rfl
   clear hK K
   try simp only [Act.put, List.setIfInBounds_toArray, List.set_cons_zero, List.set_cons_succ]
   refine tk 10 (v := ?_) rfl zz4 zz4 zz4 (fun _ _ _ h => h) zz37 (Or.inl ⟨zz54, ?_⟩) ?_
   rotate_left 1
   ·
    (intro w hSw; (try dsimp only at hSw); go_simp; try with_reducible rfl)
   try simp only [Act.put, List.setIfInBounds_toArray, List.set_cons_zero, List.set_cons_succ]
   refine alone 11 rfl zz4 zz54 (fun K hK => ?_)
   go_simp
   go_at_call 27
   (with_reducible refine (HSQ.out _).mono ?_)
   rintro e w5 ⟨rfl, hun⟩
   replace hS := hS.toN hun
   clear hun hHeld
   refine hK.out _ _ ?_ (fun hHeld => ?_)
   ·
    exact hS.cellW 0 7 _ rfl rfl
   clear hK K
   try simp only [Act.put, List.setIfInBounds_toArray, List.set_cons_zero, List.set_cons_succ]
   refine tk 12 (v := ?_) rfl zz4 zz4 zz4 (fun _ _ _ h => h) zz37 (Or.inl ⟨zz54, ?_⟩) ?_
   rotate_left 1
   ·
    (intro w hSw; (try dsimp only at hSw); go_simp; try with_reducible rfl)
   try simp only [Act.put, List.setIfInBounds_toArray, List.set_cons_zero, List.set_cons_succ]
   refine tk 13 (v := ?_) rfl zz4 zz4 zz4 (fun _ _ _ h => h) zz37 (Or.inl ⟨zz54, ?_⟩) ?_
   rotate_left 1
   ·
    (intro w hSw; (try dsimp only at hSw); go_simp; try with_reducible rfl)
   try simp only [Act.put, List.setIfInBounds_toArray, List.set_cons_zero, List.set_cons_succ]
   refine wpAnyH_done zz4 ?_ _
   go_wp2
   go_ret2
   exact ⟨rfl, hS.lt.u⟩
 ·
  have hR : encR c = ByteArray.empty := by unfold encR; rw [if_neg h0]
  have hT : tbsR c = ByteArray.empty := by unfold tbsR; rw [if_neg h0]
  have hE : tbsE c = 7 ∨ tbsE c = 8 := by
   unfold tbsE at h0 ⊢
   split at h0
   ·
    rename_i h1
    rw [if_pos h1]
    split at h0
    ·
     rename_i h2; rw [if_pos h2]; exact .inr rfl
    ·
     exact absurd rfl h0
   ·
    rename_i h1; rw [if_neg h1]; exact .inl rfl
  rw [hT] at HTB
  rw [hR]
  obtain ⟨n1, hn1⟩ : ∃ z, c.alg.length = z := ⟨_, rfl⟩
  obtain ⟨n2, hn2⟩ : ∃ z, c.iss.length = z := ⟨_, rfl⟩
  obtain ⟨n5, hn5⟩ : ∃ z, c.ents.length = z := ⟨_, rfl⟩
  obtain ⟨n6, hn6⟩ : ∃ z, c.exts.length = z := ⟨_, rfl⟩
  rw [hn1, hn2, hn5, hn6] at HTB ⊢
  obtain ⟨E, hEE⟩ : ∃ z, tbsE c = z := ⟨_, rfl⟩
  rw [hEE] at HTB hE ⊢
  obtain ⟨A1, c1, A2, c2, A5, c5, A6, c6⟩ := a
  dsimp only at HTB ⊢
  obtain ⟨v2, alg, iss, th, nx, ents, exts, sg⟩ := c
  dsimp only at HTB ⊢
  clear hM hP hcr hb3 zb za hz h0 hR hT hn1 hn2 hn5 hn6 e0 hEE HL3 HID HSA H5 z1 z5 hab hcat zs
  rcases hE with rfl | rfl
  all_goals
   go_enter Try.func11, Try.ntmps11
   go_wp2_with (first
    | ((with_reducible refine gate_dst (N := 1) rfl ?_)
       refine sp_box hS rfl (N := 1) rfl #[.bool v2, .slice A1 n1 c1, .slice A2 n2 c2, .string th, .string nx, .slice A5 n5 c5, .slice A6 n6 c6, .string sg] 27 zz20 ?_
       intro ga w1 hg1 hS
       obtain ⟨k0, k1, k2, k3, k4, k5, k6, k7⟩ := hS.cells8 0)
    | (go_at_call 13
       (with_reducible refine (HTB.out _ hS.lt.u).mono ?_)
       rintro e w2 ⟨rfl, hun⟩
       replace hS := hS.toN hun))
   go_ret2
   exact ⟨rfl, hS.lt.u⟩
end Go.Proofs.Ytgddaddoabjgiaa.At
namespace Go.Proofs.Ytgddaddoabjgiaa.At
open RowKit YtgddaddoabjgiaaW.PrintWords YtgddaddoabjgiaaW.PrintLast YtgddaddoabjgiaaW.PrintMore Own Sl Bs El Wr Oid Oidm Kn Cn Srt
set_option linter.unusedVariables false
set_option linter.unusedSimpArgs false
def NoB (e : Ending) (p : Prop) : Prop := ∃ b : Bool, e = .returned (.bool b) ∧ (b = false → p)
theorem NoB.yes {p : Prop} : NoB (.returned (.bool true)) p := ⟨true, rfl, fun h => by cases h⟩
theorem NoB.no {p : Prop} (h : p) : NoB (.returned (.bool false)) p := ⟨false, rfl, fun _ => h⟩
def ExB (l : List S51) : Prop := l.length ≤ 10 ∧ ∀ x, x ∈ l → x.f0.length ≤ 20 ∧ x.f2.size ≤ 200
theorem take_all {α : Type} {p : α → Prop} {l : List α} {i : Nat} {x : α} (h : ∀ y, y ∈ l.take i → p y) (hx : l[i]? = some x) (hp : p x) : ∀ y, y ∈ l.take (i + 1) → p y := by
 intro y hy
 rw [List.take_add_one, hx, Option.toList_some] at hy
 rcases List.mem_append.1 hy with h1 | h1
 ·
  exact h y h1
 ·
  rw [List.mem_singleton.1 h1]; exact hp
set_option maxHeartbeats 8000000 in
set_option maxRecDepth 100000 in
theorem rexb_any (A : Option Addr) (c : Nat) (l : List S51) (w : World) (hC : k51.C w A l.length l) :
 Calls Try.prog 21 #[.slice A l.length c] w fun e w' => NoB e (ExB l) ∧ Upd None0 w w' := by
 have hu := Try.underlying51
 have HC0 := Aside0.mk hC
 obtain ⟨n, hln⟩ : ∃ n, l.length = n := ⟨_, rfl⟩
 have HLN := Aside0.mk hln
 rw [hln] at HC0 ⊢
 clear hC hln
 have hn0 : (0 : Int) ≤ (n : Int) := by omega
 by_cases h10 : 10 < n
 ·
  have d1 : decide ((10 : Int) < (n : Int)) = true := decide_eq_true zz7
  go_enter Try.func21, Try.ntmps21
  go_wp2
  go_ret
  exact ⟨NoB.yes, lu⟩
 have d1 : decide ((10 : Int) < (n : Int)) = false := decide_eq_false zz7
 have HN := Aside0.mk h10
 clear h10
 go_enter Try.func21, Try.ntmps21
 go_wp2
 go_loopg [3] n (fun gk v3 wr => ∃ (i : Nat), v3 = .int .i64 (i : Int) ∧ Aside0 (i ≤ n ∧ n - i ≤ gk) ∧ Aside0 (∀ x, x ∈ l.take i → x.f0.length ≤ 20 ∧ x.f2.size ≤ 200) ∧ Aside0 (Sp w None0 [] wr))
 case atStart => exact ⟨0, rfl, ⟨Nat.zero_le _, zz7⟩, ⟨fun x hx => by simp at hx⟩, ⟨(Sp.nil (w := w) (S := None0)).lt⟩⟩
 case round =>
  clear d1
  obtain ⟨i, rfl, HI, HA, HS⟩ := hrel
  have hS := HS.out
  clear HS
  have hi00 : (0 : Int) ≤ (i : Int) := by omega
  by_cases hlt : i < n
  case neg =>
   have hd : decide (i < n) = false := decide_eq_false hlt
   have hil : l.take i = l := List.take_of_length_le zz80
   clear hlt
   go_wp2
   go_ret
   exact ⟨NoB.no ⟨by rw [HLN.out]; have := HN.out; omega, fun x hx => HA.out x (by rw [hil]; exact hx)⟩, hS.lt.u⟩
  have hd : decide (i < n) = true := decide_eq_true hlt
  have hil : i < l.length := by rw [HLN.out]; exact hlt
  have hxi := rd_some l i z51 hil
  obtain ⟨ad, A0, c0, rfl, h0, h1, h2, hl0, hi0⟩ := at_T51 HC0.out (i : Int) zz7 zz7
  replace h0 := up_cell hS.u h0
  replace h1 := up_cell hS.u h1
  replace h2 := up_cell hS.u h2
  rw [Int.toNat_natCast] at h0 h1 h2
  obtain ⟨x, hx⟩ : ∃ x, rd_T51 l (i : Int) = x := ⟨_, rfl⟩
  have hxx : l[i]? = some x := hx ▸ hxi
  rw [hx] at h0 h1 h2 hl0 hi0
  have HT := Aside0.mk (fun hp => take_all HA.out hxx hp)
  have hlti : (i : Int) < (n : Int) := by omega
  have hw1 : IntKind.i64.wrap ((i : Int) + 1) = ((i + 1 : Nat) : Int) := by have := HN.out; rw [IntKind.wrap_i64]; omega
  have hin : (i : Int) ≤ 10 := by have := HN.out; omega
  obtain ⟨m, hm⟩ : ∃ m, x.f0.length = m := ⟨_, rfl⟩
  rw [hm] at h0
  have HM := Aside0.mk hm
  obtain ⟨xo, xc, xv⟩ := x
  dsimp only at h0 h1 h2
  clear hil hxi hx hxx hl0 hi0 hm hlt
  by_cases hm20 : 20 < m
  ·
   have d2 : decide ((20 : Int) < (m : Int)) = true := decide_eq_true zz7
   clear hm20
   go_wp2
   go_ret
   exact ⟨NoB.yes, hS.lt.u⟩
  have d2 : decide ((20 : Int) < (m : Int)) = false := decide_eq_false zz7
  by_cases hv : 200 < xv.size
  ·
   have d3 : decide ((200 : Int) < (xv.size : Int)) = true := decide_eq_true zz7
   clear hm20 hv
   go_wp2
   go_ret
   exact ⟨NoB.yes, hS.lt.u⟩
  have d3 : decide ((200 : Int) < (xv.size : Int)) = false := decide_eq_false zz7
  have HB := Aside0.mk (HT.out ⟨by have := HM.out; dsimp only at this ⊢; omega, by dsimp only; omega⟩)
  clear hm20 hv
  go_wp2
  go_roundg (gk - 1)
  case measure => have := HI.out.2; omega
  case rel => exact ⟨i + 1, rfl, ⟨zz7, by have := HI.out.2; omega⟩, HB, ⟨hS.lt⟩⟩
structure GB (c : CR) : Prop where
 alg : c.alg.length ≤ 20
 issl : c.iss.length ≤ 8
 iss : ∀ x, x ∈ c.iss → x.length ≤ 8 ∧ ∀ a, a ∈ x → a.f0.length ≤ 20 ∧ a.f2.size ≤ 100
 entsl : c.ents.length ≤ 12
 ents : ∀ x, x ∈ c.ents → x.f0.size ≤ 60 ∧ x.f1.size ≤ 50 ∧ ExB x.f2
 exts : ExB c.exts
 this : c.this.size ≤ 50
 next : c.next.size ≤ 50
 sg : c.sg.size ≤ 300
def G0 (c : CR) : Prop := c.alg.length ≤ 20 ∧ c.iss.length ≤ 8 ∧ c.ents.length ≤ 12 ∧ ExB c.exts ∧ c.this.size ≤ 50 ∧ c.next.size ≤ 50 ∧ c.sg.size ≤ 300
set_option maxHeartbeats 8000000 in
set_option maxRecDepth 100000 in
theorem great_any (c : CR) (a : CA) (w : World) (hM : CrM w c a) :
 Calls Try.prog 9 #[.agg (crc c a)] w fun e w' => NoB e (GB c) ∧ Upd None0 w w' := by
 have hu := Try.underlying27
 have hu2 := Try.underlying34
 have hu3 := Try.underlying47
 have hS := Sp.nil (w := w) (S := None0)
 have HEX := Aside0.mk (fun (W : World) (h : Upd None0 w W) => rexb_any a.A6 a.c6 c.exts W (hM.up h).m6)
 have HM := Aside0.mk hM
 have hcr : crc c a = #[.bool c.v2, .slice a.A1 c.alg.length a.c1, .slice a.A2 c.iss.length a.c2, .string c.this, .string c.next, .slice a.A5 c.ents.length a.c5, .slice a.A6 c.exts.length a.c6, .string c.sg] := rfl
 rw [hcr]
 obtain ⟨n1, hn1⟩ : ∃ z, c.alg.length = z := ⟨_, rfl⟩
 obtain ⟨n2, hn2⟩ : ∃ z, c.iss.length = z := ⟨_, rfl⟩
 obtain ⟨n5, hn5⟩ : ∃ z, c.ents.length = z := ⟨_, rfl⟩
 obtain ⟨n6, hn6⟩ : ∃ z, c.exts.length = z := ⟨_, rfl⟩
 rw [hn6] at HEX
 rw [hn1, hn2, hn5, hn6]
 have HG0 := Aside0.mk (show n1 ≤ 20 → n2 ≤ 8 → n5 ≤ 12 → ExB c.exts → c.this.size ≤ 50 → c.next.size ≤ 50 → c.sg.size ≤ 300 → G0 c from fun h1 h2 h3 h4 h5 h6 h7 => ⟨zz7, zz7, zz7, h4, h5, h6, h7⟩)
 have HN2 := Aside0.mk hn2
 have HN5 := Aside0.mk hn5
 obtain ⟨A1, c1, A2, c2, A5, c5, A6, c6⟩ := a
 obtain ⟨v2, alg, iss, th, nx, ents, exts, sg⟩ := c
 dsimp only at HEX HM HG0 HN2 HN5 ⊢
 clear hM hcr hn1 hn2 hn5 hn6
 have i1 : (0 : Int) ≤ (n1 : Int) := by omega
 go_enter Try.func9, Try.ntmps9
 go_upto_region 1 with (first
  | ((with_reducible refine gate_dst (N := 1) rfl ?_)
     refine sp_box hS rfl (N := 1) rfl #[.bool v2, .slice A1 n1 c1, .slice A2 n2 c2, .string th, .string nx, .slice A5 n5 c5, .slice A6 n6 c6, .string sg] 27 zz20 ?_
     intro ga w1 hg1 hS
     obtain ⟨k0, k1, k2, k3, k4, k5, k6, k7⟩ := hS.cells8 0))
 go_cut [44] (fun v44 wc => NoB (.returned v44) (G0 (CR.mk v2 alg iss th nx ents exts sg)) ∧ Aside0 (Sp w None0 [blk ga #[.bool v2, .slice A1 n1 c1, .slice A2 n2 c2, .string th, .string nx, .slice A5 n5 c5, .slice A6 n6 c6, .string sg] 27] wc))
 case first =>
  by_cases t0 : 20 < n1
  ·
   have d0 : decide ((20 : Int) < (n1 : Int)) = true := decide_eq_true zz7
   have T0 := Aside0.mk t0
   clear t0
   go_wp2
   go_meet
   exact ⟨NoB.yes, ⟨by exact hS.lt⟩⟩
  have d0 : decide ((20 : Int) < (n1 : Int)) = false := decide_eq_false zz7
  have T0 := Aside0.mk t0
  clear t0
  by_cases t1 : 8 < n2
  ·
   have d1 : decide ((8 : Int) < (n2 : Int)) = true := decide_eq_true zz7
   have T1 := Aside0.mk t1
   clear t1
   go_wp2
   go_meet
   exact ⟨NoB.yes, ⟨by exact hS.lt⟩⟩
  have d1 : decide ((8 : Int) < (n2 : Int)) = false := decide_eq_false zz7
  have T1 := Aside0.mk t1
  clear t1
  by_cases t2 : 12 < n5
  ·
   have d2 : decide ((12 : Int) < (n5 : Int)) = true := decide_eq_true zz7
   have T2 := Aside0.mk t2
   clear t2
   go_wp2
   go_meet
   exact ⟨NoB.yes, ⟨by exact hS.lt⟩⟩
  have d2 : decide ((12 : Int) < (n5 : Int)) = false := decide_eq_false zz7
  have T2 := Aside0.mk t2
  clear t2
  by_cases t3 : 50 < th.size
  ·
   have d3 : decide ((50 : Int) < (th.size : Int)) = true := decide_eq_true zz7
   have T3 := Aside0.mk t3
   clear t3
   go_wp2
   go_meet
   exact ⟨NoB.yes, ⟨by exact hS.lt⟩⟩
  have d3 : decide ((50 : Int) < (th.size : Int)) = false := decide_eq_false zz7
  have T3 := Aside0.mk t3
  clear t3
  by_cases t4 : 50 < nx.size
  ·
   have d4 : decide ((50 : Int) < (nx.size : Int)) = true := decide_eq_true zz7
   have T4 := Aside0.mk t4
   clear t4
   go_wp2
   go_meet
   exact ⟨NoB.yes, ⟨by exact hS.lt⟩⟩
  have d4 : decide ((50 : Int) < (nx.size : Int)) = false := decide_eq_false zz7
  have T4 := Aside0.mk t4
  clear t4
  by_cases t5 : 300 < sg.size
  ·
   have d5 : decide ((300 : Int) < (sg.size : Int)) = true := decide_eq_true zz7
   have T5 := Aside0.mk t5
   clear t5
   go_wp2
   go_meet
   exact ⟨NoB.yes, ⟨by exact hS.lt⟩⟩
  have d5 : decide ((300 : Int) < (sg.size : Int)) = false := decide_eq_false zz7
  have T5 := Aside0.mk t5
  clear t5
  go_wp2_with (first
   | (go_at_call 21
      (with_reducible refine (HEX.out _ hS.lt.u).mono ?_)
      rintro e w2 ⟨⟨b, rfl, hb⟩, hun⟩
      replace hS := hS.toN hun
      have HBB := Aside0.mk hb
      clear k0 k1 k2 k3 k4 k5 k6 k7 hun hb))
  go_meet
  exact ⟨⟨b, rfl, fun h => HG0.out (Nat.le_of_not_lt T0.out) (Nat.le_of_not_lt T1.out) (Nat.le_of_not_lt T2.out) (HBB.out h) (Nat.le_of_not_lt T3.out) (Nat.le_of_not_lt T4.out) (Nat.le_of_not_lt T5.out)⟩, ⟨by exact hS.lt⟩⟩
 clear hS k0 k1 k2 k3 k4 k5 k6 k7
 obtain ⟨HB44, HS⟩ := hcut
 have hS := HS.out
 clear HS
 obtain ⟨k0, k1, k2, k3, k4, k5, k6, k7⟩ := hS.cells8 0
 obtain ⟨b44, hb44, hG0⟩ := HB44
 cases hb44
 cases b44
 case true =>
  clear hG0
  go_wp2
  go_ret
  exact ⟨NoB.yes, hS.lt.u⟩
 have HG := Aside0.mk (hG0 rfl)
 clear hG0
 have hn2 : n2 ≤ 8 := by have := HG.out.2.1; dsimp only at this; rw [HN2.out] at this; exact this
 have hn5 : n5 ≤ 12 := by have := HG.out.2.2.1; dsimp only at this; rw [HN5.out] at this; exact this
 have HNN := Aside0.mk (And.intro hn2 hn5)
 clear hn2 hn5 i1 k0 k1 k3 k4 k5 k6 k7 HEX HG0
 go_wp2
 go_loopg [3] n2 (fun gk v3 wr => ∃ (i : Nat), v3 = .int .i64 (i : Int) ∧ Aside0 (i ≤ n2 ∧ n2 - i ≤ gk) ∧ Aside0 (∀ x, x ∈ iss.take i → x.length ≤ 8 ∧ ∀ a, a ∈ x → a.f0.length ≤ 20 ∧ a.f2.size ≤ 100) ∧ Aside0 (Sp w None0 [blk ga #[.bool v2, .slice A1 n1 c1, .slice A2 n2 c2, .string th, .string nx, .slice A5 n5 c5, .slice A6 n6 c6, .string sg] 27] wr))
 case atStart => exact ⟨0, rfl, ⟨Nat.zero_le _, zz7⟩, ⟨fun x hx => by simp at hx⟩, ⟨hS.lt⟩⟩
 case round =>
  clear hS k2
  obtain ⟨i, rfl, HI, HA, HS⟩ := hrel
  have hS := HS.out
  clear HS
  obtain ⟨k0, k1, k2, k3, k4, k5, k6, k7⟩ := hS.cells8 0
  have hi00 : (0 : Int) ≤ (i : Int) := by omega
  by_cases hlt : i < n2
  case neg =>
   have hd : decide (i < n2) = false := decide_eq_false hlt
   have hil : iss.take i = iss := List.take_of_length_le (by have := HI.out.1; rw [HN2.out]; omega)
   have hiss := HA.out
   rw [hil] at hiss
   have HISS := Aside0.mk hiss
   clear hlt hil hiss
   go_wp2
   go_loopg [5] n5 (fun gk v5 wr => ∃ (i : Nat), v5 = .int .i64 (i : Int) ∧ Aside0 (i ≤ n5 ∧ n5 - i ≤ gk) ∧ Aside0 (∀ x, x ∈ ents.take i → x.f0.size ≤ 60 ∧ x.f1.size ≤ 50 ∧ ExB x.f2) ∧ Aside0 (Sp w None0 [blk ga #[.bool v2, .slice A1 n1 c1, .slice A2 n2 c2, .string th, .string nx, .slice A5 n5 c5, .slice A6 n6 c6, .string sg] 27] wr))
   case atStart => exact ⟨0, rfl, ⟨Nat.zero_le _, zz7⟩, ⟨fun x hx => by simp at hx⟩, ⟨hS.lt⟩⟩
   case round =>
    clear hS k0 k1 k2 k3 k4 k5 k6 k7 HI HA hd hi00
    obtain ⟨i, rfl, HI, HA, HS⟩ := hrel
    have hS := HS.out
    clear HS
    obtain ⟨k0, k1, k2, k3, k4, k5, k6, k7⟩ := hS.cells8 0
    have hi00 : (0 : Int) ≤ (i : Int) := by omega
    by_cases hlt : i < n5
    case neg =>
     have hd : decide (i < n5) = false := decide_eq_false hlt
     have hil : ents.take i = ents := List.take_of_length_le (by have := HI.out.1; rw [HN5.out]; omega)
     have hents := HA.out
     rw [hil] at hents
     have HENTS := Aside0.mk hents
     clear hlt hil hents
     go_wp2
     go_ret
     have g := HG.out
     exact ⟨NoB.no ⟨g.1, g.2.1, HISS.out, g.2.2.1, HENTS.out, g.2.2.2.1, g.2.2.2.2.1, g.2.2.2.2.2.1, g.2.2.2.2.2.2⟩, hS.lt.u⟩
    have hd : decide (i < n5) = true := decide_eq_true hlt
    have hil : i < ents.length := by rw [HN5.out]; exact hlt
    have hxi := rd_some ents i z34 hil
    have hm5 : k34.C w A5 n5 ents := by have := HM.out.m5; dsimp only at this; rw [HN5.out] at this; exact this
    obtain ⟨ad, A0, c0, rfl, h0, h1, h2, hl0, hi0⟩ := at_T34 hm5 (i : Int) zz7 zz7
    replace h0 := up_cell hS.u h0
    replace h1 := up_cell hS.u h1
    replace h2 := up_cell hS.u h2
    rw [Int.toNat_natCast] at h0 h1 h2
    obtain ⟨x, hx_⟩ : ∃ x, rd_T34 ents (i : Int) = x := ⟨_, rfl⟩
    have hxx : ents[i]? = some x := hx_ ▸ hxi
    rw [hx_] at h0 h1 h2 hl0 hi0
    have HT := Aside0.mk (fun hp => take_all HA.out hxx hp)
    have HXB := Aside0.mk (fun (W : World) (h : Upd None0 w W) => rexb_any A0 c0 x.f2 W (Kd.C_below hi0 h.below0))
    have hw1 : IntKind.i64.wrap ((i : Int) + 1) = ((i + 1 : Nat) : Int) := by have := HNN.out.2; rw [IntKind.wrap_i64]; omega
    have hlti : (i : Int) < (n5 : Int) := by omega
    obtain ⟨m, hm⟩ : ∃ m, x.f2.length = m := ⟨_, rfl⟩
    rw [hm] at h2 HXB
    obtain ⟨xs, xd, xe⟩ := x
    dsimp only at h0 h1 h2 HXB
    clear hil hxi hx_ hxx hl0 hi0 hm hm5 hlt
    by_cases t0 : 60 < xs.size
    ·
     have d0 : decide ((60 : Int) < (xs.size : Int)) = true := decide_eq_true zz7
     clear t0
     go_wp2
     go_ret
     exact ⟨NoB.yes, hS.lt.u⟩
    have d0 : decide ((60 : Int) < (xs.size : Int)) = false := decide_eq_false zz7
    by_cases t1 : 50 < xd.size
    ·
     have d1 : decide ((50 : Int) < (xd.size : Int)) = true := decide_eq_true zz7
     clear t0 t1
     go_wp2
     go_ret
     exact ⟨NoB.yes, hS.lt.u⟩
    have d1 : decide ((50 : Int) < (xd.size : Int)) = false := decide_eq_false zz7
    have HTT := Aside0.mk (fun (hp : ExB xe) => HT.out ⟨Nat.le_of_not_lt t0, Nat.le_of_not_lt t1, hp⟩)
    clear t0 t1
    go_upto_if 126 with (first
     | (go_at_call 21
        (with_reducible refine (HXB.out _ hS.lt.u).mono ?_)
        rintro e w2 ⟨⟨b, rfl, hb⟩, hun⟩
        replace hS := hS.toN hun
        have HBB := Aside0.mk hb
        clear k0 k1 k2 k3 k4 k5 k6 k7 h0 h1 h2 hun hb))
    cases b
    ·
     go_wp2
     go_roundg (gk - 1)
     case measure => have := HI.out.2; omega
     case rel => exact ⟨i + 1, rfl, ⟨zz7, by have := HI.out.2; omega⟩, ⟨HTT.out (HBB.out zz43)⟩, ⟨hS.lt⟩⟩
    ·
     go_wp2
     go_ret
     exact ⟨NoB.yes, hS.lt.u⟩
  have hd : decide (i < n2) = true := decide_eq_true hlt
  have hil : i < iss.length := by rw [HN2.out]; exact hlt
  have hxi := rd_some iss i ([] : List S47) hil
  have hm2 : (Kd.slice 47 k47).C w A2 n2 iss := by have := HM.out.m2; dsimp only at this; rw [HN2.out] at this; exact this
  obtain ⟨ad, A0, c0, rfl, h0, hl0, hi0⟩ := at_L7 hm2 (i : Int) zz7 zz7
  rw [Int.toNat_natCast] at h0
  have HK0 := Aside0.mk h0
  obtain ⟨x, hx⟩ : ∃ x, rd_L7 iss (i : Int) = x := ⟨_, rfl⟩
  have hxx : iss[i]? = some x := hx ▸ hxi
  rw [hx] at h0 hl0 hi0 HK0
  replace h0 := up_cell hS.u h0
  have HT := Aside0.mk (fun hp => take_all HA.out hxx hp)
  have hw1 : IntKind.i64.wrap ((i : Int) + 1) = ((i + 1 : Nat) : Int) := by have := HNN.out.1; rw [IntKind.wrap_i64]; omega
  have hlti : (i : Int) < (n2 : Int) := by omega
  obtain ⟨m, hm⟩ : ∃ m, x.length = m := ⟨_, rfl⟩
  rw [hm] at h0 hi0 HK0
  have HM0 := Aside0.mk hm
  have HXC := Aside0.mk hi0
  clear hil hxi hx hxx hl0 hi0 hm hm2
  by_cases t0 : 8 < m
  ·
   have d0 : decide ((8 : Int) < (m : Int)) = true := decide_eq_true zz7
   clear t0 hlt
   go_wp2
   go_ret
   exact ⟨NoB.yes, hS.lt.u⟩
  have d0 : decide ((8 : Int) < (m : Int)) = false := decide_eq_false zz7
  have HM8 := Aside0.mk (Nat.le_of_not_lt t0)
  obtain ⟨go, hgo⟩ : ∃ g, g = gk := ⟨_, rfl⟩
  have HGO := Aside0.mk hgo
  have HLT := Aside0.mk hlt
  clear t0 hlt hgo
  go_wp2
  go_loopg [4] m (fun gk v4 wr => ∃ (j : Nat), v4 = .int .i64 (j : Int) ∧ Aside0 (j ≤ m ∧ m - j ≤ gk) ∧ Aside0 (∀ a, a ∈ x.take j → a.f0.length ≤ 20 ∧ a.f2.size ≤ 100) ∧ Aside0 (Sp w None0 [blk ga #[.bool v2, .slice A1 n1 c1, .slice (some ad) n2 c2, .string th, .string nx, .slice A5 n5 c5, .slice A6 n6 c6, .string sg] 27] wr))
  case atStart => exact ⟨0, rfl, ⟨Nat.zero_le _, zz7⟩, ⟨fun x hx => by simp at hx⟩, ⟨hS.lt⟩⟩
  case round =>
   clear hS k0 k1 k2 k3 k4 k5 k6 k7 h0 d0 hd
   obtain ⟨j, rfl, HJ, HAJ, HS⟩ := hrel
   have hS := HS.out
   clear HS
   obtain ⟨k0, k1, k2, k3, k4, k5, k6, k7⟩ := hS.cells8 0
   have h00 := up_cell hS.u HK0.out
   have hj00 : (0 : Int) ≤ (j : Int) := by omega
   by_cases hlj : j < m
   case neg =>
    have hd : decide (j < m) = false := decide_eq_false hlj
    have hil : x.take j = x := List.take_of_length_le (by have := HJ.out.1; rw [HM0.out]; omega)
    have hall := HAJ.out
    rw [hil] at hall
    have HB := Aside0.mk (HT.out ⟨by rw [HM0.out]; exact HM8.out, hall⟩)
    clear hlj hil hall
    go_wp2
    go_roundg (go - 1)
    case measure => have := HI.out.2; have := HGO.out; have := HLT.out; omega
    case rel => exact ⟨i + 1, rfl, ⟨by have := HLT.out; omega, zz84⟩, HB, ⟨hS.lt⟩⟩
   have hd : decide (j < m) = true := decide_eq_true hlj
   have hjl : j < x.length := by rw [HM0.out]; exact hlj
   have hyj := rd_some x j z47 hjl
   obtain ⟨ae, A1, c1, rfl, h0, h1, h2, hl1, hi1⟩ := at_T47 HXC.out (j : Int) zz7 zz7
   replace h0 := up_cell hS.u h0
   replace h1 := up_cell hS.u h1
   replace h2 := up_cell hS.u h2
   rw [Int.toNat_natCast] at h0 h1 h2
   obtain ⟨y, hy⟩ : ∃ y, rd_T47 x (j : Int) = y := ⟨_, rfl⟩
   have hyy : x[j]? = some y := hy ▸ hyj
   rw [hy] at h0 h1 h2 hl1 hi1
   have HTJ := Aside0.mk (fun hp => take_all HAJ.out hyy hp)
   have hltj : (j : Int) < (m : Int) := by omega
   have hw2 : IntKind.i64.wrap ((j : Int) + 1) = ((j + 1 : Nat) : Int) := by have := HM8.out; rw [IntKind.wrap_i64]; omega
   obtain ⟨q, hq⟩ : ∃ q, y.f0.length = q := ⟨_, rfl⟩
   rw [hq] at h0
   have HQ := Aside0.mk hq
   obtain ⟨yo, yt, ys⟩ := y
   dsimp only at h0 h1 h2
   clear hjl hyj hy hyy hl1 hi1 hq hlj
   by_cases t1 : 20 < q
   ·
    have d1 : decide ((20 : Int) < (q : Int)) = true := decide_eq_true zz7
    clear t1
    go_wp2
    go_ret
    exact ⟨NoB.yes, hS.lt.u⟩
   have d1 : decide ((20 : Int) < (q : Int)) = false := decide_eq_false zz7
   by_cases t2 : 100 < ys.size
   ·
    have d2 : decide ((100 : Int) < (ys.size : Int)) = true := decide_eq_true zz7
    clear t1 t2
    go_wp2
    go_ret
    exact ⟨NoB.yes, hS.lt.u⟩
   have d2 : decide ((100 : Int) < (ys.size : Int)) = false := decide_eq_false zz7
   have HTT := Aside0.mk (HTJ.out ⟨by have := HQ.out; dsimp only at this ⊢; omega, Nat.le_of_not_lt t2⟩)
   clear t1 t2
   go_wp2
   go_roundg (gk - 1)
   case measure => have := HJ.out.2; omega
   case rel => exact ⟨j + 1, rfl, ⟨zz7, by have := HJ.out.2; omega⟩, HTT, ⟨hS.lt⟩⟩
end Go.Proofs.Ytgddaddoabjgiaa.At
namespace Go.Proofs.Ytgddaddoabjgiaa.At
open Oid Kn
set_option linter.unusedVariables false
def A64 (l : List Int) : Prop := ∀ a, a ∈ l → 0 ≤ a ∧ a < 18446744073709551616
structure Rng (c : CR) : Prop where
 alg : A64 c.alg
 iss : ∀ s, s ∈ c.iss → ∀ a, a ∈ s → A64 a.f0
 ents : ∀ e, e ∈ c.ents → ∀ x, x ∈ e.f2 → A64 x.f0
 exts : ∀ x, x ∈ c.exts → A64 x.f0
theorem crp_of {c : CR} (hr : Rng c) (hg : GB c) : CrP c where
 alg := ⟨by have := hg.alg; omega, hr.alg⟩
 issl := by have := hg.issl; omega
 iss := fun s hs => ⟨by have := (hg.iss s hs).1; omega, fun a ha => ⟨⟨by have := ((hg.iss s hs).2 a ha).1; omega, hr.iss s hs a ha⟩, by have := ((hg.iss s hs).2 a ha).2; omega⟩⟩
 entsl := by have := hg.entsl; omega
 ents := fun e he => ⟨by have := (hg.ents e he).1; omega, by have := (hg.ents e he).2.1; omega, by have := (hg.ents e he).2.2.1; omega, fun x hx => ⟨⟨by have := ((hg.ents e he).2.2.2 x hx).1; omega, hr.ents e he x hx⟩, by have := ((hg.ents e he).2.2.2 x hx).2; omega⟩⟩
 extsl := by have := hg.exts.1; omega
 exts := fun x hx => ⟨⟨by have := (hg.exts.2 x hx).1; omega, hr.exts x hx⟩, by have := (hg.exts.2 x hx).2; omega⟩
 this := by have := hg.this; omega
 next := by have := hg.next; omega
 sg := by have := hg.sg; omega
end Go.Proofs.Ytgddaddoabjgiaa.At
namespace Go.Proofs.Ytgddaddoabjgiaa.BCr
open RowKit YtgddaddoabjgiaaW.PrintWords YtgddaddoabjgiaaW.PrintLast YtgddaddoabjgiaaW.PrintMore Kn At
open Go.ChangeShapes Go.WideShapes Go.Deep
set_option linter.unusedVariables false
def OpK {α : Type} (P : Program) (t : TypeId) (d : Kd α) (Q : α → Prop) : Prop :=
 ∀ (H : Type) (enc : TypeId × Value → H) (w : World) (base : Nat) (spare : Nat → Bool) (held : Bool) (fuel : Nat) (cs : List Value) (x : DataW H × List MemPlace), DataW.trod enc P w base spare held fuel t cs = some x → ∃ a, d.K w a cs ∧ Q a
section
variable {P : Program} {t e : TypeId}
theorem opk_int {k : IntKind} (ht : P.underlying t = some (.int k)) : OpK P t (Kd.int k) (fun n => (Lit.int k n).wf = true) := fun H enc w base spare held fuel cs x h => by
 obtain ⟨n, rfl, _, hw⟩ := DataW.trod_int ht h
 exact ⟨n, rfl, hw⟩
theorem opk_bool (ht : P.underlying t = some .bool) : OpK P t Kd.bool (fun _ => True) := fun H enc w base spare held fuel cs x h => by
 obtain ⟨b, rfl, _⟩ := DataW.trod_bool ht h
 exact ⟨b, rfl, trivial⟩
theorem opk_string (ht : P.underlying t = some .string) : OpK P t Kd.string (fun _ => True) := fun H enc w base spare held fuel cs x h => by
 obtain ⟨s, rfl, _⟩ := DataW.trod_string ht h
 exact ⟨s, rfl, trivial⟩
theorem opk_slice {α : Type} (z : α) {d : Kd α} {Q : α → Prop} (ht : P.underlying t = some (.slice e)) (hE : OpK P e d Q) (hc : P.cellsOf e = d.sz) : OpK P t (Kd.slice e d) (fun xs => ∀ x, x ∈ xs → Q x) := fun H enc w base spare held fuel cs x h => by
 rcases open_slice ht h with ⟨rfl, _⟩ | ⟨a, len, cap, m, n, D, Pl, rfl, hb, hl, hm, hmm, rfl, hx⟩
 ·
  exact ⟨[], ⟨none, 0, rfl, Nat.le_refl _, Kd.C_nil _ _⟩, fun x hx => by cases hx⟩
 have hlm : len ≤ m := by rw [hmm]; split <;> omega
 have each : ∀ i, i < len → ∃ q : α, Q q ∧ ∃ c, c.length = d.sz ∧ d.K w q c ∧ ∀ j u, c[j]? = some u → w.cell? (a.add (i * d.sz + j)) = some u := fun i hi => by
  obtain ⟨cs', h1, h2⟩ := hx i zz7
  obtain ⟨q, hk, hq⟩ := hE H enc w base spare held n cs' _ h2
  rw [hc] at h1
  obtain ⟨_, hlen, hcell⟩ := World.cells?_some h1
  refine ⟨q, hq, cs', hlen, hk, fun j u hj => ?_⟩
  have hjl := (List.getElem?_eq_some_iff.1 hj).1
  have := hcell j zz7
  rw [Deep.add_add] at this
  rw [this, hj]
 haveI : Inhabited α := ⟨z⟩
 obtain ⟨q, hq⟩ := choose_lt each
 have hcap : cap ≤ 9223372036854775807 := hm
 refine ⟨(List.range len).map q, ⟨some a, cap, zz43, by simpa using hl, ⟨rfl, zz73, fun _ => ⟨a, rfl, fun j p hj => ?_⟩⟩⟩, fun y hy => ?_⟩
 ·
  rw [List.getElem?_map] at hj
  obtain ⟨i, hi, rfl⟩ := Option.map_eq_some_iff.1 hj
  obtain ⟨hil, hie⟩ := List.getElem?_eq_some_iff.1 hi
  rw [List.getElem_range] at hie
  subst hie
  rw [List.length_range] at hil
  exact (hq j hil).2
 ·
  obtain ⟨i, hi, rfl⟩ := List.mem_map.1 hy
  exact (hq i (List.mem_range.1 hi)).1
theorem opk_three {α β γ δ : Type} {d0 : Kd α} {d1 : Kd β} {d2 : Kd γ} {Q0 : α → Prop} {Q1 : β → Prop} {Q2 : γ → Prop} {f0 f1 f2 : Field} {f : δ → α × β × γ} (mk : α → β → γ → δ) (hmk : ∀ a b c, f (mk a b c) = (a, b, c))
 (ht : P.underlying t = some (.struct #[f0, f1, f2])) (ce : P.cellsOf t = 3) (o0 : f0.offset = 0) (o1 : f1.offset = 1) (o2 : f2.offset = 2) (c0 : P.cellsOf f0.type = 1) (c1 : P.cellsOf f1.type = 1) (c2 : P.cellsOf f2.type = 1)
 (h0 : OpK P f0.type d0 Q0) (h1 : OpK P f1.type d1 Q1) (h2 : OpK P f2.type d2 Q2) : OpK P t (Kd.iso (Kd.pair d0 (Kd.pair d1 d2)) f) (fun x => Q0 (f x).1 ∧ Q1 (f x).2.1 ∧ Q2 (f x).2.2) := fun H enc w base spare held fuel cs x h => by
 obtain ⟨xs, n, _, _, hlen, hxl, hf⟩ := DataW.trod_struct ht h
 rw [ce] at hlen
 match xs, hxl, cs, hlen with
 | [y0, y1, y2], _, [v0, v1, v2], _ =>
   have g0 := hf 0 f0 rfl
   have g1 := hf 1 f1 rfl
   have g2 := hf 2 f2 rfl
   simp [o0, o1, o2, c0, c1, c2] at g0 g1 g2
   obtain ⟨a, ka, qa⟩ := h0 H enc w base spare held n _ _ g0
   obtain ⟨b, kb, qb⟩ := h1 H enc w base spare held n _ _ g1
   obtain ⟨c, kc, qc⟩ := h2 H enc w base spare held n _ _ g2
   refine ⟨mk a b c, ?_, by show Q0 (f (mk a b c)).1 ∧ Q1 (f (mk a b c)).2.1 ∧ Q2 (f (mk a b c)).2.2; rw [hmk]; exact ⟨qa, qb, qc⟩⟩
   show (Kd.pair d0 (Kd.pair d1 d2)).K w (f (mk a b c)) [v0, v1, v2]
   rw [hmk]
   exact ⟨[v0], [v1, v2], rfl, ka, [v1], [v2], rfl, kb, kc⟩
end
theorem wfu64 {x : Int} (h : (Lit.int .u64 x).wf = true) : 0 ≤ x ∧ x < 18446744073709551616 := by
 have : 0 ≤ x ∧ x ≤ 18446744073709551615 := by simpa [Lit.wf, IntKind.min, IntKind.max, IntKind.signed, IntKind.bits] using h
 omega
theorem op_arcs : OpK Try.prog 22 (Kd.slice 49 (Kd.int .u64)) (fun l => ∀ a, a ∈ l → (Lit.int .u64 a).wf = true) := opk_slice 0 Try.underlying22 (opk_int Try.underlying49) zz4
theorem op_attr : OpK Try.prog 47 k47 (fun x => (∀ a, a ∈ x.f0 → (Lit.int .u64 a).wf = true) ∧ (Lit.int .i64 x.f1).wf = true ∧ True) :=
 opk_three S47.mk (fun _ _ _ => rfl) Try.underlying47 zz4 rfl rfl rfl zz4 zz4 zz4 op_arcs (opk_int Try.underlying3) (opk_string Try.underlying9)
theorem op_ext : OpK Try.prog 51 k51 (fun x => (∀ a, a ∈ x.f0 → (Lit.int .u64 a).wf = true) ∧ True ∧ True) :=
 opk_three S51.mk (fun _ _ _ => rfl) Try.underlying51 zz4 rfl rfl rfl zz4 zz4 zz4 op_arcs (opk_bool Try.underlying4) (opk_string Try.underlying9)
theorem op_exts : OpK Try.prog 25 (Kd.slice 51 k51) (fun l => ∀ x, x ∈ l → (∀ a, a ∈ x.f0 → (Lit.int .u64 a).wf = true) ∧ True ∧ True) := opk_slice z51 Try.underlying25 op_ext zz4
theorem op_entry : OpK Try.prog 34 k34 (fun x => True ∧ True ∧ ∀ y, y ∈ x.f2 → (∀ a, a ∈ y.f0 → (Lit.int .u64 a).wf = true) ∧ True ∧ True) :=
 opk_three S34.mk (fun _ _ _ => rfl) Try.underlying34 zz4 rfl rfl rfl zz4 zz4 zz4 (opk_string Try.underlying9) (opk_string Try.underlying9) op_exts
theorem op_entries : OpK Try.prog 24 (Kd.slice 34 k34) (fun l => ∀ x, x ∈ l → True ∧ True ∧ ∀ y, y ∈ x.f2 → (∀ a, a ∈ y.f0 → (Lit.int .u64 a).wf = true) ∧ True ∧ True) := opk_slice z34 Try.underlying24 op_entry zz4
theorem op_set : OpK Try.prog 45 (Kd.slice 47 k47) (fun l => ∀ x, x ∈ l → (∀ a, a ∈ x.f0 → (Lit.int .u64 a).wf = true) ∧ (Lit.int .i64 x.f1).wf = true ∧ True) := opk_slice z47 Try.underlying45 op_attr zz4
theorem op_name : OpK Try.prog 23 (Kd.slice 45 (Kd.slice 47 k47)) (fun l => ∀ s, s ∈ l → ∀ x, x ∈ s → (∀ a, a ∈ x.f0 → (Lit.int .u64 a).wf = true) ∧ (Lit.int .i64 x.f1).wf = true ∧ True) := opk_slice [] Try.underlying23 op_set zz4
theorem cellsCrl : Try.prog.cellsOf 27 = 8 := by kernel_rfl
theorem one_bool : Try.prog.cellsOf 4 = 1 := by kernel_rfl
theorem one_string : Try.prog.cellsOf 9 = 1 := by kernel_rfl
theorem one_arcs : Try.prog.cellsOf 22 = 1 := by kernel_rfl
theorem one_name : Try.prog.cellsOf 23 = 1 := by kernel_rfl
theorem one_entries : Try.prog.cellsOf 24 = 1 := by kernel_rfl
theorem one_exts : Try.prog.cellsOf 25 = 1 := by kernel_rfl
set_option maxRecDepth 100000 in
theorem crl_open {H : Type} {enc : TypeId × Value → H} {W : World} {base b0 : Nat} {r : Reach} {spare : Nat → Bool} {held : Bool} {v : Value} {d : DataW H} {ps : List MemPlace} (hv : Value.okWide Try.prog W r b0 27 v)
 (h : DataW.Trod enc Try.prog W base spare held 27 v d ps) : ∃ c a, v = .agg (crc c a) ∧ CrM W c a ∧ Rng c := by
 have hs := Try.underlying27
 simp only [Value.okWide, hs] at hv
 obtain ⟨⟨l⟩, rfl, hsz, _⟩ := hv
 rw [cellsCrl] at hsz
 match l, hsz with
 | [v0, v1, v2, v3, v4, v5, v6, v7], _ =>
   obtain ⟨fuel, hf⟩ := h
   obtain ⟨xs, n, _, _, hlen, hxl, hx⟩ := DataW.trod_struct hs hf
   match xs, hxl with
   | [y0, y1, y2, y3, y4, y5, y6, y7], _ =>
     have g0 := hx 0 _ rfl
     have g1 := hx 1 _ rfl
     have g2 := hx 2 _ rfl
     have g3 := hx 3 _ rfl
     have g4 := hx 4 _ rfl
     have g5 := hx 5 _ rfl
     have g6 := hx 6 _ rfl
     have g7 := hx 7 _ rfl
     simp [one_bool, one_string, one_arcs, one_name, one_entries, one_exts] at g0 g1 g2 g3 g4 g5 g6 g7
     obtain ⟨b, e0, _⟩ := DataW.trod_bool Try.underlying4 g0
     obtain ⟨alg, ⟨A1, c1, e1, l1, m1⟩, r1⟩ := op_arcs _ _ _ _ _ _ _ _ _ g1
     obtain ⟨iss, ⟨A2, c2, e2, l2, m2⟩, r2⟩ := op_name _ _ _ _ _ _ _ _ _ g2
     obtain ⟨th, e3, _⟩ := DataW.trod_string Try.underlying9 g3
     obtain ⟨nx, e4, _⟩ := DataW.trod_string Try.underlying9 g4
     obtain ⟨en, ⟨A5, c5, e5, l5, m5⟩, r5⟩ := op_entries _ _ _ _ _ _ _ _ _ g5
     obtain ⟨ex, ⟨A6, c6, e6, l6, m6⟩, r6⟩ := op_exts _ _ _ _ _ _ _ _ _ g6
     obtain ⟨sg, e7, _⟩ := DataW.trod_string Try.underlying9 g7
     cases e0
     cases e1
     cases e2
     cases e3
     cases e4
     cases e5
     cases e6
     cases e7
     exact ⟨⟨b, alg, iss, th, nx, en, ex, sg⟩, ⟨A1, c1, A2, c2, A5, c5, A6, c6⟩, rfl, ⟨m1, l1, m2, l2, m5, l5, m6, l6⟩,
      ⟨fun a ha => wfu64 (r1 a ha), fun s hs x hx a ha => wfu64 ((r2 s hs x hx).1 a ha), fun e he x hx a ha => wfu64 (((r5 e he).2.2 x hx).1 a ha), fun x hx a ha => wfu64 ((r6 x hx).1 a ha)⟩⟩
end Go.Proofs.Ytgddaddoabjgiaa.BCr
namespace Go.Proofs.Ytgddaddoabjgiaa.At
open RowKit YtgddaddoabjgiaaW.PrintWords YtgddaddoabjgiaaW.PrintLast YtgddaddoabjgiaaW.PrintMore Own Sl Bs El Wr Oid Oidm Kn Cn Srt Dt
set_option linter.unusedVariables false
set_option linter.unusedSimpArgs false
theorem C_blk {α : Type} (d : Kd α) {w : World} {g t : Nat} {xs : List α} {cs : List Value} (hb : w.heap[g]? = some (.cells cs.toArray t (0, 0))) (hr : Reps (d.K w) d.sz xs cs) (hm : xs.length ≤ 9223372036854775807) : d.C w (some ⟨g, 0, none⟩) xs.length xs := by
 refine ⟨rfl, hm, fun _ => ⟨_, rfl, fun j p hj => ⟨(cs.drop (j * d.sz)).take d.sz, ?_, hr.2 j p hj, fun i u hi => ?_⟩⟩⟩
 ·
  have hjl := (List.getElem?_eq_some_iff.1 hj).1
  rw [List.length_take, List.length_drop, hr.1]
  have h1 : (j + 1) * d.sz ≤ xs.length * d.sz := Nat.mul_le_mul_right _ hjl
  rw [Nat.add_mul, Nat.one_mul] at h1
  omega
 ·
  rw [List.getElem?_take] at hi
  split at hi
  ·
   rw [List.getElem?_drop] at hi
   have := blk_cell hb (j * d.sz + i)
   rw [add_plain]
   rw [this]
   simpa using hi
  ·
   cases hi
section
variable {P : Program} {ops : Array Oper} {rest : List Oper} {o : Oper} {a : Act} {Q : Exit → Act → World → Prop} {w0 w W : World} {S0 : Nat → Prop} {l l2 : List Ast}
theorem sp_slc [Lt w W] (h : Sp w0 S0 l w) (hgd : o.guard = none) {N : Tmp} (hd : o.dst = some N) (cs : Array Value) (t n : Nat)
 (hrun : (execOp a.eval o).run P W = .ok (.value (.slice (some ⟨W.heap.size, 0, none⟩) n n)) (W.alloc (.cells cs t (0, 0))))
 (hk : ∀ g w1, w.heap.size ≤ g → Sp w0 S0 (blk g cs t :: l) w1 → wpList P ops Q rest (a.put o.dst (.slice (some ⟨g, 0, none⟩) n n)) w1) : wpList P ops Q (o :: rest) a W :=
 Kd.event_run hgd hrun (hk _ _ (lu : Upd None0 w W).size ((h.lt (W := W)).more (Upd.of_below (below_alloc (Below.refl _ _) _)) ⟨Nat.le_refl _, blk_new W _⟩))
end
def smallC : CR := ⟨true, [1, 2], [[⟨[2, 5, 4, 3], 12, ⟨#[97]⟩⟩]], ⟨#[50, 48, 50, 52, 48, 49, 48, 49, 48, 48, 48, 48, 48, 48]⟩, ⟨#[]⟩, [], [], ⟨#[]⟩⟩
def smA (g1 g4 : Nat) : Ast := ex fun (q : Nat × Nat) => sep [blk g4 #[.slice (some ⟨q.2, 0, none⟩) 1 1] 45, blk q.2 #[.slice (some ⟨q.1, 0, none⟩) 4 4, .int .i64 12, .string ⟨#[97]⟩] 47, blk q.1 #[.int .u64 2, .int .u64 5, .int .u64 4, .int .u64 3] 49, blk g1 #[.int .u64 1, .int .u64 2] 49]
theorem smA_C {w0 w : World} {S0 : Nat → Prop} {l : List Ast} {g1 g4 : Nat} (h : Sp w0 S0 l w) (i : Nat) (hi : l[i]? = some (smA g1 g4)) : (Kd.int .u64).C w (some ⟨g1, 0, none⟩) 2 [1, 2] ∧ (Kd.slice 47 k47).C w (some ⟨g4, 0, none⟩) 1 smallC.iss := by
 obtain ⟨⟨g2, g3⟩, hs⟩ := h.h.get i _ hi
 have b0 : w.heap[g4]? = some (.cells #[.slice (some ⟨g3, 0, none⟩) 1 1] 45 (0, 0)) := (Hs.get hs 0 _ rfl).2
 have b1 : w.heap[g3]? = some (.cells #[.slice (some ⟨g2, 0, none⟩) 4 4, .int .i64 12, .string ⟨#[97]⟩] 47 (0, 0)) := (Hs.get hs 1 _ rfl).2
 have b2 : w.heap[g2]? = some (.cells #[.int .u64 2, .int .u64 5, .int .u64 4, .int .u64 3] 49 (0, 0)) := (Hs.get hs 2 _ rfl).2
 have b3 : w.heap[g1]? = some (.cells #[.int .u64 1, .int .u64 2] 49 (0, 0)) := (Hs.get hs 3 _ rfl).2
 refine ⟨C_blk (Kd.int .u64) (xs := [1, 2]) (cs := [.int .u64 1, .int .u64 2]) b3 (Reps.one rfl (Reps.one rfl (Reps.none _ _))) zz13, ?_⟩
 refine C_blk (Kd.slice 47 k47) (xs := smallC.iss) (cs := [.slice (some ⟨g3, 0, none⟩) 1 1]) b0 (reps_one ⟨some ⟨g3, 0, none⟩, 1, rfl, zz13, ?_⟩ rfl) zz13
 refine C_blk k47 (xs := [S47.mk [2, 5, 4, 3] 12 ⟨#[97]⟩]) (cs := [.slice (some ⟨g2, 0, none⟩) 4 4, .int .i64 12, .string ⟨#[97]⟩]) b1 (reps_one (k47_mk _ _ (A0 := some ⟨g2, 0, none⟩) (c0 := 4) zz13 ?_) rfl) zz13
 exact C_blk (Kd.int .u64) (xs := [2, 5, 4, 3]) (cs := [.int .u64 2, .int .u64 5, .int .u64 4, .int .u64 3]) b2 (Reps.one rfl (Reps.one rfl (Reps.one rfl (Reps.one rfl (Reps.none _ _))))) zz13
set_option maxHeartbeats 8000000 in
set_option maxRecDepth 100000 in
theorem small_any (w : World) : Calls Try.prog 20 #[] w fun e w' => ∃ A1 A2 : Nat, e = .returned (.agg #[.bool true, .slice (some ⟨A1, 0, none⟩) 2 2, .slice (some ⟨A2, 0, none⟩) 1 1, .string ⟨#[50, 48, 50, 52, 48, 49, 48, 49, 48, 48, 48, 48, 48, 48]⟩, .string ⟨#[]⟩, .slice none 0 0, .slice none 0 0, .string ⟨#[]⟩]) ∧ Sp w None0 [smA A1 A2] w' := by
 have hu := Try.underlying27
 have hu2 := Try.underlying47
 have hS := Sp.nil (w := w) (S := None0)
 go_enter Try.func20, Try.ntmps20
 go_wp2_with (first
  | ((with_reducible refine gate_dst (N := 0) rfl ?_)
     refine sp_box hS rfl (N := 0) rfl #[.bool false, .slice none 0 0, .slice none 0 0, .string ⟨#[]⟩, .string ⟨#[]⟩, .slice none 0 0, .slice none 0 0, .string ⟨#[]⟩] 27 zz20 ?_
     intro ga w1 hg1 hS)
  | ((with_reducible refine gate_dst (N := 1) rfl ?_)
     refine sp_slc hS rfl (N := 1) rfl #[.int .u64 1, .int .u64 2] 49 2 zz20 ?_
     intro g1 w2 hg2 hS)
  | ((with_reducible refine gate_dst (N := 2) rfl ?_)
     refine sp_slc hS rfl (N := 2) rfl #[.int .u64 2, .int .u64 5, .int .u64 4, .int .u64 3] 49 4 zz20 ?_
     intro g2 w3 hg3 hS)
  | ((with_reducible refine gate_dst (N := 4) rfl ?_)
     refine sp_slc hS rfl (N := 4) rfl #[.slice (some ⟨g2, 0, none⟩) 4 4, .int .i64 12, .string ⟨#[97]⟩] 47 1 zz20 ?_
     intro g3 w4 hg4 hS)
  | ((with_reducible refine gate_dst (N := 5) rfl ?_)
     refine sp_slc hS rfl (N := 5) rfl #[.slice (some ⟨g3, 0, none⟩) 1 1] 45 1 zz20 ?_
     intro g4 w5 hg5 hS)
  | ((with_reducible refine gate_store (t := 27) (p := 0) (v := .tmp 6) rfl ?_)
     refine sp_row hS 4 rfl 27 (.tmp 0) (.tmp 6) rfl rfl ga #[.bool true, .slice (some ⟨g1, 0, none⟩) 2 2, .slice (some ⟨g4, 0, none⟩) 1 1, .string ⟨#[50, 48, 50, 52, 48, 49, 48, 49, 48, 48, 48, 48, 48, 48]⟩, .string ⟨#[]⟩, .slice none 0 0, .slice none 0 0, .string ⟨#[]⟩] rfl rfl 27 _ rfl zz4 rfl zz82 rfl ?_
     intro w6 hS))
 refine bodyPost_ret (results_cell_row rfl _ _ ga 27 _ (0, 0) _ rfl (hS.blk 4) hu rfl zz4) rfl ?_
 exact ⟨g1, g4, rfl, Sp.exI (g2, g3) (Sp.fold _ (Sp.sel (l2 := [blk g4 #[.slice (some ⟨g3, 0, none⟩) 1 1] 45, blk g3 #[.slice (some ⟨g2, 0, none⟩) 4 4, .int .i64 12, .string ⟨#[97]⟩] 47, blk g2 #[.int .u64 2, .int .u64 5, .int .u64 4, .int .u64 3] 49, blk g1 #[.int .u64 1, .int .u64 2] 49]) hS [0, 1, 2, 3]))⟩
theorem crp_small (v2 : Bool) (this : ByteArray) (hthis : this.size ≤ 1000) (exts : List S51) (he : exts.length ≤ 100) (hx : ∀ x, x ∈ exts → ExtP x) : CrP ⟨v2, [1, 2], smallC.iss, this, ⟨#[]⟩, [], exts, ⟨#[]⟩⟩ where
 alg := ⟨show (2 : Nat) ≤ 1000 by decide, show ∀ a, a ∈ [(1 : Int), 2] → 0 ≤ a ∧ a < 18446744073709551616 by decide⟩
 issl := show (1 : Nat) ≤ 20 by decide
 iss := fun x hx => by
  obtain rfl := List.mem_singleton.1 hx
  exact ⟨zz13, fun a ha => by obtain rfl := List.mem_singleton.1 ha; exact ⟨⟨zz13, zz13⟩, zz13⟩⟩
 entsl := show (0 : Nat) ≤ 20 by decide
 ents := fun x hx => by cases hx
 extsl := he
 exts := hx
 this := hthis
 next := show (0 : Nat) ≤ 1000 by decide
 sg := show (0 : Nat) ≤ 1000 by decide
def thisA : ByteArray := ⟨#[50, 48, 50, 52, 48, 49, 48, 49, 48, 48, 48, 48, 48, 48]⟩
theorem datOk_A : datOk thisA = true := by
 have hb : bytesOf thisA = [50, 48, 50, 52, 48, 49, 48, 49, 48, 48, 48, 48, 48, 48] := by decide
 refine (datOk_iff _).2 ?_
 rw [hb]
 refine ⟨⟨rfl, ?_, zz13, zz13, zz13, zz13, zz13⟩, zz13⟩
 unfold Digs Dig
 decide
theorem datOk_B : datOk ⟨#[50, 48, 50, 52]⟩ = false := by
 rw [← Bool.not_eq_true, datOk_iff]
 rintro ⟨h, _⟩
 have := h.1
 revert this
 decide
theorem small_name : nameOk smallC.iss = true := by decide +kernel
theorem small_E : tbsE smallC = 0 := by
 have h : tbsOk smallC = true := by
  show (oidOk [1, 2] && nameOk smallC.iss && datOk thisA && (ByteArray.isEmpty ⟨#[]⟩ || datOk ⟨#[]⟩) && entsOk [] && (decide (([] : List S51).length = 0) || extsOk [])) = true
  rw [small_name, datOk_A]; rfl
 unfold tbsE
 rw [h]; rfl
theorem small2_E : tbsE ⟨true, [1, 2], smallC.iss, ⟨#[50, 48, 50, 52]⟩, ⟨#[]⟩, [], [], ⟨#[]⟩⟩ = 7 := by
 unfold tbsE tbsOk
 dsimp only
 rw [datOk_B, Bool.and_false, Bool.false_and, Bool.false_and, Bool.false_and]; rfl
def extA : S51 := ⟨[1, 2], false, ⟨#[]⟩⟩
def extB : S51 := ⟨[2, 5, 29, 20], false, ⟨#[2, 1, 1]⟩⟩
theorem extA_P : ∀ x, x ∈ [extA] → ExtP x := fun x hx => by obtain rfl := List.mem_singleton.1 hx; exact ⟨⟨zz13, zz13⟩, zz13⟩
theorem extB_P : ∀ x, x ∈ [extB] → ExtP x := fun x hx => by obtain rfl := List.mem_singleton.1 hx; exact ⟨⟨zz13, zz13⟩, zz13⟩
theorem small3_E : tbsE ⟨false, [1, 2], smallC.iss, thisA, ⟨#[]⟩, [], [extA], ⟨#[]⟩⟩ = 8 := by
 have h : tbsOk ⟨false, [1, 2], smallC.iss, thisA, ⟨#[]⟩, [], [extA], ⟨#[]⟩⟩ = true := by
  show (oidOk [1, 2] && nameOk smallC.iss && datOk thisA && (ByteArray.isEmpty ⟨#[]⟩ || datOk ⟨#[]⟩) && entsOk [] && (decide (([extA] : List S51).length = 0) || extsOk [extA])) = true
  rw [small_name, datOk_A]; rfl
 unfold tbsE
 rw [h]; rfl
theorem oidc_B : oidc [2, 5, 29, 20] = [85, 29, 20] := by simp [oidc, tl, numb, hi_zero]
theorem extB_b : extsb [extB] = ⟨#[48, 12, 48, 10, 6, 3, 85, 29, 20, 4, 3, 2, 1, 1]⟩ := by
 have h : idc [2, 5, 29, 20] = ⟨#[85, 29, 20]⟩ := by unfold idc; rw [oidc_B]; decide
 have h2 : idb [2, 5, 29, 20] = ⟨#[6, 3, 85, 29, 20]⟩ := by unfold idb; rw [h]; decide +kernel
 have h3 : extl extB = [⟨#[6, 3, 85, 29, 20]⟩, ⟨#[4, 3, 2, 1, 1]⟩] := by
  have : elb 0 4 false extB.f2 = ⟨#[4, 3, 2, 1, 1]⟩ := by decide +kernel
  unfold extl
  rw [this]
  show idb [2, 5, 29, 20] :: _ = _
  rw [h2]; rfl
 have h4 : extx extB = ⟨#[48, 10, 6, 3, 85, 29, 20, 4, 3, 2, 1, 1]⟩ := by
  have ho : oidOk extB.f0 = true := by decide
  unfold extx extb
  rw [ho, h3]; decide +kernel
 unfold extsb
 rw [List.map_cons, h4]; decide +kernel
theorem extB_o : extsOk [extB] = true := by decide
set_option maxHeartbeats 8000000 in
set_option maxRecDepth 100000 in
theorem awake_any (w : World) : Calls Try.prog 8 #[] w fun e w' => e = .returned (.bool true) ∧ Upd None0 w w' := by
 have hu := Try.underlying27
 have hu2 := Try.underlying51
 have hu3 := Try.underlying39
 have hS := Sp.nil (w := w) (S := None0)
 have HX1 := Aside0.mk (fun (W : World) (g : Nat) (hC : k51.C W (some ⟨g, 0, none⟩) 1 [extB]) => show Calls Try.prog 16 #[.slice (some ⟨g, 0, none⟩) 1 1] W fun e w' => e = .returned (.tuple #[.string ⟨#[48, 12, 48, 10, 6, 3, 85, 29, 20, 4, 3, 2, 1, 1]⟩, .bool true]) ∧ Upd None0 W w' from by
  have h := exts_any (some ⟨g, 0, none⟩) 1 [extB] W hC zz13 extB_P zz13
  rw [extB_o, extB_b, if_pos rfl] at h
  exact h)
 have HX0 := Aside0.mk (fun (W : World) => show Calls Try.prog 16 #[.slice none 0 0] W fun e w' => e = .returned (.tuple #[.string ⟨#[]⟩, .bool false]) ∧ Upd None0 W w' from
  exts_any none 0 [] W (Kd.C_nil _ _) zz13 (fun x hx => by cases hx) zz13)
 obtain ⟨Y, hY⟩ : ∃ z, encR smallC = z := ⟨_, rfl⟩
 have HM := fun (W : World) (g1 g2 : Nat) (m1 : (Kd.int .u64).C W (some ⟨g1, 0, none⟩) 2 [1, 2]) (m2 : (Kd.slice 47 k47).C W (some ⟨g2, 0, none⟩) 1 smallC.iss) (v2 : Bool) (th : ByteArray) (A6 : Option Addr) (c6 : Nat) (exts : List S51) (m6 : k51.C W A6 exts.length exts) (l6 : exts.length ≤ c6) =>
  show CrM W ⟨v2, [1, 2], smallC.iss, th, ⟨#[]⟩, [], exts, ⟨#[]⟩⟩ ⟨some ⟨g1, 0, none⟩, 2, some ⟨g2, 0, none⟩, 1, none, 0, A6, c6⟩ from ⟨m1, show (2 : Nat) ≤ 2 by decide, m2, show (1 : Nat) ≤ 1 by decide, Kd.C_nil _ _, show (0 : Nat) ≤ 0 by decide, m6, l6⟩
 have HEN := Aside0.mk (fun (W : World) (g1 g2 : Nat) (m1 : (Kd.int .u64).C W (some ⟨g1, 0, none⟩) 2 [1, 2]) (m2 : (Kd.slice 47 k47).C W (some ⟨g2, 0, none⟩) 1 smallC.iss) =>
  show Calls Try.prog 10 #[.agg #[.bool true, .slice (some ⟨g1, 0, none⟩) 2 2, .slice (some ⟨g2, 0, none⟩) 1 1, .string ⟨#[50, 48, 50, 52, 48, 49, 48, 49, 48, 48, 48, 48, 48, 48]⟩, .string ⟨#[]⟩, .slice none 0 0, .slice none 0 0, .string ⟨#[]⟩]] W fun e w' => e = .returned (.tuple #[.string Y, .int .i64 0]) ∧ Upd None0 W w' from by
   have h := encode_any _ _ W (HM W g1 g2 m1 m2 true thisA none 0 [] (Kd.C_nil _ _) zz13) (crp_small true thisA zz13 [] zz13 (fun x hx => by cases hx))
   rw [show CR.mk true [1, 2] smallC.iss thisA ⟨#[]⟩ [] [] ⟨#[]⟩ = smallC from rfl, hY, small_E] at h
   exact h)
 have HRE := Aside0.mk (fun (W : World) (g1 g2 : Nat) (m1 : (Kd.int .u64).C W (some ⟨g1, 0, none⟩) 2 [1, 2]) (m2 : (Kd.slice 47 k47).C W (some ⟨g2, 0, none⟩) 1 smallC.iss) =>
  show Calls Try.prog 11 #[.agg #[.bool true, .slice (some ⟨g1, 0, none⟩) 2 2, .slice (some ⟨g2, 0, none⟩) 1 1, .string ⟨#[50, 48, 50, 52, 48, 49, 48, 49, 48, 48, 48, 48, 48, 48]⟩, .string ⟨#[]⟩, .slice none 0 0, .slice none 0 0, .string ⟨#[]⟩]] W fun e w' => e = .returned (.tuple #[.string Y, .int .i64 0]) ∧ Upd None0 W w' from by
   have h := rencode_any _ _ W (HM W g1 g2 m1 m2 true thisA none 0 [] (Kd.C_nil _ _) zz13) (crp_small true thisA zz13 [] zz13 (fun x hx => by cases hx))
   rw [show CR.mk true [1, 2] smallC.iss thisA ⟨#[]⟩ [] [] ⟨#[]⟩ = smallC from rfl, hY, small_E] at h
   exact h)
 have HT2 := Aside0.mk (fun (W : World) (g1 g2 : Nat) (m1 : (Kd.int .u64).C W (some ⟨g1, 0, none⟩) 2 [1, 2]) (m2 : (Kd.slice 47 k47).C W (some ⟨g2, 0, none⟩) 1 smallC.iss) =>
  show Calls Try.prog 12 #[.agg #[.bool true, .slice (some ⟨g1, 0, none⟩) 2 2, .slice (some ⟨g2, 0, none⟩) 1 1, .string ⟨#[50, 48, 50, 52]⟩, .string ⟨#[]⟩, .slice none 0 0, .slice none 0 0, .string ⟨#[]⟩]] W fun e w' => e = .returned (.tuple #[.string ⟨#[]⟩, .int .i64 7]) ∧ Upd None0 W w' from by
   have h := tbs_any _ _ W (HM W g1 g2 m1 m2 true ⟨#[50, 48, 50, 52]⟩ none 0 [] (Kd.C_nil _ _) zz13) (crp_small true ⟨#[50, 48, 50, 52]⟩ zz13 [] zz13 (fun x hx => by cases hx))
   unfold tbsR at h
   rw [small2_E] at h
   exact h)
 have HT3 := Aside0.mk (fun (W : World) (g1 g2 g6 : Nat) (m1 : (Kd.int .u64).C W (some ⟨g1, 0, none⟩) 2 [1, 2]) (m2 : (Kd.slice 47 k47).C W (some ⟨g2, 0, none⟩) 1 smallC.iss) (m6 : k51.C W (some ⟨g6, 0, none⟩) 1 [extA]) =>
  show Calls Try.prog 12 #[.agg #[.bool false, .slice (some ⟨g1, 0, none⟩) 2 2, .slice (some ⟨g2, 0, none⟩) 1 1, .string ⟨#[50, 48, 50, 52, 48, 49, 48, 49, 48, 48, 48, 48, 48, 48]⟩, .string ⟨#[]⟩, .slice none 0 0, .slice (some ⟨g6, 0, none⟩) 1 1, .string ⟨#[]⟩]] W fun e w' => e = .returned (.tuple #[.string ⟨#[]⟩, .int .i64 8]) ∧ Upd None0 W w' from by
   have h := tbs_any _ _ W (HM W g1 g2 m1 m2 false thisA (some ⟨g6, 0, none⟩) 1 [extA] m6 zz13) (crp_small false thisA zz13 [extA] zz13 extA_P)
   unfold tbsR at h
   rw [small3_E] at h
   exact h)
 have HEL := Aside0.mk (fun (W : World) => show Calls Try.prog 18 #[.agg #[.int .i64 0, .int .i64 5, .bool false, .int .i64 0], .string ⟨#[]⟩] W fun e w' => e = .returned (.string ⟨#[5, 0]⟩) ∧ Upd None0 W w' from by
  have h := elem_ok (c := 0) (t := 5) false 0 ⟨#[]⟩ W ⟨zz13, zz13, zz13, zz13⟩ zz13
  rw [show elb 0 5 false ⟨#[]⟩ = ⟨#[5, 0]⟩ by decide +kernel] at h
  exact h)
 have HSM := Aside0.mk (fun W => small_any W)
 clear HM hY
 go_enter Try.func8, Try.ntmps8
 go_wp2_with (first
  | ((with_reducible refine gate_dst (N := 16) rfl ?_)
     refine sp_slc hS rfl (N := 16) rfl #[.int .u64 2, .int .u64 5, .int .u64 29, .int .u64 20] 49 4 zz20 ?_
     intro g1 w2 hg2 hS)
  | ((with_reducible refine gate_dst (N := 18) rfl ?_)
     refine sp_slc hS rfl (N := 18) rfl #[.slice (some ⟨g1, 0, none⟩) 4 4, .bool false, .string ⟨#[2, 1, 1]⟩] 51 1 zz20 ?_
     intro g2 w3 hg3 hS
     have HCX := Aside0.mk (show k51.C w3 (some ⟨g2, 0, none⟩) 1 [extB] from C_blk k51 (xs := [extB]) (cs := [.slice (some ⟨g1, 0, none⟩) 4 4, .bool false, .string ⟨#[2, 1, 1]⟩]) (hS.blk 0) (reps_one (k51_mk _ _ (A0 := some ⟨g1, 0, none⟩) (c0 := 4) zz13
      (C_blk (Kd.int .u64) (xs := [2, 5, 29, 20]) (cs := [.int .u64 2, .int .u64 5, .int .u64 29, .int .u64 20]) (hS.blk 1) (Reps.one rfl (Reps.one rfl (Reps.one rfl (Reps.one rfl (Reps.none _ _))))) zz13)) rfl) zz13))
  | (go_at_call 16
     first
     | ((with_reducible refine (HX0.out _).mono ?_)
        rintro e w5 ⟨rfl, hun⟩
        replace hS := hS.toN hun
        clear hun)
     | ((with_reducible refine (HX1.out _ g2 HCX.out).mono ?_)
        rintro e w4 ⟨rfl, hun⟩
        replace hS := hS.toN hun
        clear hun HCX))
  | (go_at_call 20
     (with_reducible refine (HSM.out _).mono ?_)
     rintro e w6 ⟨s1, s2, rfl, hq⟩
     replace hS := hS.post0 (hq.mo (fun _ h => h.elim))
     have HMM := Aside0.mk (smA_C hS 0 rfl)
     clear hq)
  | (go_at_call 10
     (with_reducible refine (HEN.out _ s1 s2 HMM.out.1 HMM.out.2).mono ?_)
     rintro e w7 ⟨rfl, hun⟩
     replace hS := hS.toN hun
     clear hun HMM)
  | (go_at_call 11
     (with_reducible refine (HRE.out _ s1 s2 HMM.out.1 HMM.out.2).mono ?_)
     rintro e w7 ⟨rfl, hun⟩
     replace hS := hS.toN hun
     clear hun HMM)
  | ((with_reducible refine gate_dst (N := 7) rfl ?_)
     refine sp_box hS rfl (N := 7) rfl #[.bool false, .slice none 0 0, .slice none 0 0, .string ⟨#[]⟩, .string ⟨#[]⟩, .slice none 0 0, .slice none 0 0, .string ⟨#[]⟩] 27 zz20 ?_
     intro gc w8 hg8 hS)
  | ((with_reducible refine gate_dst (N := 10) rfl ?_)
     refine sp_box hS rfl (N := 10) rfl #[.bool false, .slice none 0 0, .slice none 0 0, .string ⟨#[]⟩, .string ⟨#[]⟩, .slice none 0 0, .slice none 0 0, .string ⟨#[]⟩] 27 zz20 ?_
     intro gd w8 hg8 hS)
  | ((with_reducible refine gate_store (t := 27) (p := 10) (v := .tmp 38) rfl ?_)
     refine sp_row hS 0 rfl 27 (.tmp 10) (.tmp 38) rfl rfl gd #[.bool true, .slice (some ⟨s1, 0, none⟩) 2 2, .slice (some ⟨s2, 0, none⟩) 1 1, .string ⟨#[50, 48, 50, 52, 48, 49, 48, 49, 48, 48, 48, 48, 48, 48]⟩, .string ⟨#[]⟩, .slice none 0 0, .slice none 0 0, .string ⟨#[]⟩] rfl rfl 27 _ rfl zz4 rfl zz82 rfl ?_
     intro w9 hS
     clear k0 k1 k2 k3 k4 k5 k6 k7
     obtain ⟨k0, k1, k2, k3, k4, k5, k6, k7⟩ := hS.cells8 0)
  | ((with_reducible refine gate_store (t := 4) (p := 39) (v := .const (.bool false)) rfl ?_)
     refine sp_cell hS 0 rfl 4 (.tmp 39) (.const (.bool false)) rfl rfl gd 0 (.bool false) rfl rfl 27 _ _ rfl zz4 zz43 rfl rfl rfl ?_
     intro w10 hS
     clear k0 k1 k2 k3 k4 k5 k6 k7
     obtain ⟨k0, k1, k2, k3, k4, k5, k6, k7⟩ := hS.cells8 0)
  | ((with_reducible refine gate_dst (N := 40) rfl ?_)
     refine sp_slc hS rfl (N := 40) rfl #[.int .u64 1, .int .u64 2] 49 2 zz20 ?_
     intro g1 w2 hg2 hS
     clear k0 k1 k2 k3 k4 k5 k6 k7
     obtain ⟨k0, k1, k2, k3, k4, k5, k6, k7⟩ := hS.cells8 1)
  | ((with_reducible refine gate_dst (N := 42) rfl ?_)
     refine sp_slc hS rfl (N := 42) rfl #[.slice (some ⟨g1, 0, none⟩) 2 2, .bool false, .string ⟨#[]⟩] 51 1 zz20 ?_
     intro g2 w3 hg3 hS
     clear k0 k1 k2 k3 k4 k5 k6 k7
     obtain ⟨k0, k1, k2, k3, k4, k5, k6, k7⟩ := hS.cells8 2)
  | ((with_reducible refine gate_store (t := 25) (p := 43) (v := .tmp 42) rfl ?_)
     refine sp_cell hS 2 rfl 25 (.tmp 43) (.tmp 42) rfl rfl gd 6 (.slice (some ⟨g2, 0, none⟩) 1 1) rfl rfl 27 _ _ rfl zz4 zz43 rfl rfl rfl ?_
     intro w10 hS
     clear HMM
     have HMM := Aside0.mk (smA_C hS 3 rfl)
     have HCX := Aside0.mk (show k51.C w10 (some ⟨g2, 0, none⟩) 1 [extA] from C_blk k51 (xs := [extA]) (cs := [.slice (some ⟨g1, 0, none⟩) 2 2, .bool false, .string ⟨#[]⟩]) (hS.blk 0) (reps_one (k51_mk _ _ (A0 := some ⟨g1, 0, none⟩) (c0 := 2) zz13
      (C_blk (Kd.int .u64) (xs := [1, 2]) (cs := [.int .u64 1, .int .u64 2]) (hS.blk 1) (Reps.one rfl (Reps.one rfl (Reps.none _ _))) zz13)) rfl) zz13)
     clear k0 k1 k2 k3 k4 k5 k6 k7
     obtain ⟨k0, k1, k2, k3, k4, k5, k6, k7⟩ := hS.cells8 2)
  | ((with_reducible refine gate_store (t := 27) (p := 7) (v := .tmp 31) rfl ?_)
     refine sp_row hS 0 rfl 27 (.tmp 7) (.tmp 31) rfl rfl gc #[.bool true, .slice (some ⟨s1, 0, none⟩) 2 2, .slice (some ⟨s2, 0, none⟩) 1 1, .string ⟨#[50, 48, 50, 52, 48, 49, 48, 49, 48, 48, 48, 48, 48, 48]⟩, .string ⟨#[]⟩, .slice none 0 0, .slice none 0 0, .string ⟨#[]⟩] rfl rfl 27 _ rfl zz4 rfl zz82 rfl ?_
     intro w9 hS
     obtain ⟨k0, k1, k2, k3, k4, k5, k6, k7⟩ := hS.cells8 0)
  | ((with_reducible refine gate_store (t := 9) (p := 32) (v := .const (.string ⟨#[50, 48, 50, 52]⟩)) rfl ?_)
     refine sp_cell hS 0 rfl 9 (.tmp 32) (.const (.string ⟨#[50, 48, 50, 52]⟩)) rfl rfl gc 3 (.string ⟨#[50, 48, 50, 52]⟩) rfl rfl 27 _ _ rfl zz4 zz43 rfl rfl rfl ?_
     intro w10 hS
     clear HMM
     have HMM := Aside0.mk (smA_C hS 1 rfl)
     clear k0 k1 k2 k3 k4 k5 k6 k7
     obtain ⟨k0, k1, k2, k3, k4, k5, k6, k7⟩ := hS.cells8 0)
  | (go_at_call 12
     first
     | ((with_reducible refine (HT2.out _ s1 s2 HMM.out.1 HMM.out.2).mono ?_)
        rintro e w11 ⟨rfl, hun⟩
        replace hS := hS.toN hun
        clear hun HMM)
     | ((with_reducible refine (HT3.out _ s1 s2 g2 HMM.out.1 HMM.out.2 HCX.out).mono ?_)
        rintro e w11 ⟨rfl, hun⟩
        replace hS := hS.toN hun
        clear hun HMM HCX))
  | (go_at_call 18
     (with_reducible refine (HEL.out _).mono ?_)
     rintro e w7 ⟨rfl, hun⟩
     replace hS := hS.toN hun))
 go_ret
 exact ⟨rfl, hS.lt.u⟩
end Go.Proofs.Ytgddaddoabjgiaa.At
namespace Go.Proofs.Ytgddaddoabjgiaa.At
open RowKit YtgddaddoabjgiaaW.PrintWords Bs Idm Lenm Hdm El Wr Oid Oidm Kn Cn Srt
set_option linter.unusedVariables false
theorem bytesOf_elb {c t : Int} (k : Bool) {s : ByteArray} (h : Valid c t) (hs : s.size ≤ 100000000) : bytesOf (elb c t k s) = hdenc c t k (s.size : Int) ++ bytesOf s := by
 have hw : Whole c t (s.size : Int) := ⟨h, zz7, by unfold MaxLen; omega⟩
 unfold elb
 rw [bytesOf_append, bytesOf_nums _ (hdenc_bytes hw)]
theorem elb_pre {c t c' t' : Int} {k k' : Bool} {s s' r r' : ByteArray} (h : Valid c t) (h' : Valid c' t') (hs : s.size ≤ 100000000) (hs' : s'.size ≤ 100000000) (he : elb c t k s ++ r = elb c' t' k' s' ++ r') :
 c = c' ∧ t = t' ∧ k = k' ∧ s = s' ∧ r = r' := by
 have hw : Whole c t (s.size : Int) := ⟨h, zz7, by unfold MaxLen; omega⟩
 have hw' : Whole c' t' (s'.size : Int) := ⟨h', zz7, by unfold MaxLen; omega⟩
 have e := congrArg bytesOf he
 rw [bytesOf_append, bytesOf_append, bytesOf_elb k h hs, bytesOf_elb k' h' hs', List.append_assoc, List.append_assoc] at e
 have g1 := hg_enc k hw (bytesOf s ++ bytesOf r)
 have g2 := hg_enc k' hw' (bytesOf s' ++ bytesOf r')
 rw [e, g2] at g1
 simp only [Prod.mk.injEq] at g1
 obtain ⟨rfl, rfl, rfl, hn, hl, _⟩ := g1
 rw [show (s'.size : Int) = (s.size : Int) from hn] at e
 have e2 := List.append_cancel_left e
 have hsz : (bytesOf s).length = (bytesOf s').length := by rw [bytesOf_length, bytesOf_length]; omega
 obtain ⟨e3, e4⟩ := List.append_inj e2 hsz
 exact ⟨rfl, rfl, rfl, bytesOf_inj e3, bytesOf_inj e4⟩
theorem v16 : Valid 0 16 := ⟨zz13, zz13, zz13, zz13⟩
theorem v3 : Valid 0 3 := ⟨zz13, zz13, zz13, zz13⟩
end Go.Proofs.Ytgddaddoabjgiaa.At
namespace Go.Proofs.Ytgddaddoabjgiaa.Srt
open RowKit YtgddaddoabjgiaaW.PrintWords Bs Go.Proofs.Ytgddaddoabjgiaa.Ord Cm
set_option linter.unusedVariables false
set_option linter.unusedSimpArgs false
def le (a b : ByteArray) : Prop := cm a b ≤ 0
theorem le_iff (a b : ByteArray) : le a b ↔ (∀ i, sq a i = sq b i) ∨ ∃ i, sq a i < sq b i ∧ ∀ j, j < i → sq a j = sq b j := by
 unfold le
 rcases cm_spec a b with ⟨h, g⟩ | ⟨h, i, g1, g2⟩ | ⟨h, i, g1, g2⟩
 ·
  exact ⟨fun _ => .inl g, fun _ => by omega⟩
 ·
  exact ⟨fun _ => .inr ⟨i, g1, g2⟩, fun _ => by omega⟩
 ·
  constructor
  ·
   intro; omega
  ·
   rintro (k | ⟨j, k1, k2⟩)
   ·
    have := k i; omega
   ·
    rcases Nat.lt_trichotomy i j with h1 | h1 | h1
    ·
     have := k2 i h1; omega
    ·
     subst h1; omega
    ·
     have := g2 j h1; omega
theorem le_trans {a b c : ByteArray} (h : le a b) (g : le b c) : le a c := by
 rw [le_iff] at h g ⊢
 rcases h with h | ⟨i, h1, h2⟩ <;> rcases g with g | ⟨j, g1, g2⟩
 ·
  exact .inl fun i => (h i).trans (g i)
 ·
  exact .inr ⟨j, by rw [h j]; exact g1, fun k hk => (h k).trans (g2 k hk)⟩
 ·
  exact .inr ⟨i, by rw [← g i]; exact h1, fun k hk => (h2 k hk).trans (g k)⟩
 ·
  right
  rcases Nat.lt_trichotomy i j with h3 | h3 | h3
  ·
   exact ⟨i, by rw [← g2 i h3]; exact h1, fun k hk => (h2 k hk).trans (g2 k zz7)⟩
  ·
   subst h3; exact ⟨i, zz7, fun k hk => (h2 k hk).trans (g2 k hk)⟩
  ·
   exact ⟨j, by rw [h2 j h3]; exact g1, fun k hk => (h2 k zz7).trans (g2 k hk)⟩
theorem le_tot (a b : ByteArray) : le a b ∨ le b a := by
 unfold le
 have := cm_swap a b
 omega
theorem le_both {a b : ByteArray} (h : le a b) (g : le b a) : ∀ i, sq a i = sq b i := by
 unfold le at h g
 have e := cm_swap a b
 rcases cm_spec a b with ⟨_, k⟩ | ⟨k, _⟩ | ⟨k, _⟩
 ·
  exact k
 ·
  omega
 ·
  omega
theorem back_mid (x : ByteArray) (S : List ByteArray) (hS : S.Pairwise le) : ∀ n, n ≤ S.length → (∀ j y, back x S n ≤ j → j < n → S[j]? = some y → le x y) ∧ (∀ j y, j < back x S n → S[j]? = some y → le y x)
 | 0, _ => ⟨fun j y _ h => by omega, fun j y h => by unfold back at h; omega⟩
 | n + 1, hn => by
   have ih := back_mid x S hS n zz7
   have hj : n < S.length := hn
   have g3 : S.getD n ByteArray.empty = S[n] := by rw [List.getD_eq_getElem?_getD, List.getElem?_eq_getElem hj]; rfl
   unfold back
   rw [g3]
   by_cases hk : 0 < cm S[n] x
   ·
    rw [if_pos hk]
    refine ⟨fun j y h1 h2 hy => ?_, ih.2⟩
    by_cases hjn : j = n
    ·
     subst hjn
     rw [List.getElem?_eq_getElem hj] at hy
     cases hy
     have := cm_swap S[j] x
     unfold le; omega
    ·
     exact ih.1 j y h1 zz7 hy
   ·
    rw [if_neg hk]
    refine ⟨fun j y h1 h2 => by omega, fun j y h1 hy => ?_⟩
    have hl : le S[n] x := by unfold le; omega
    by_cases hjn : j = n
    ·
     subst hjn
     rw [List.getElem?_eq_getElem hj] at hy
     cases hy
     exact hl
    ·
     have hjl : j < S.length := by omega
     rw [List.getElem?_eq_getElem hjl] at hy
     cases hy
     exact le_trans (List.pairwise_iff_getElem.1 hS j n hjl hj zz7) hl
theorem rins_sorted (x : ByteArray) (S : List ByteArray) (hS : S.Pairwise le) : (rins S x).Pairwise le := by
 have h := back_mid x S hS S.length (Nat.le_refl _)
 have hb := back_le x S S.length
 unfold rins
 obtain ⟨k, hk⟩ : ∃ k, back x S S.length = k := ⟨_, rfl⟩
 rw [hk] at h hb ⊢
 have a1 : ∀ y, y ∈ S.take k → le y x := by
  intro y hy
  obtain ⟨j, hj⟩ := List.mem_iff_getElem?.1 hy
  have hjk : j < k := by
   have := (List.getElem?_eq_some_iff.1 hj).1
   rw [List.length_take] at this; omega
  rw [List.getElem?_take_of_lt hjk] at hj
  exact h.2 j y hjk hj
 have a2 : ∀ y, y ∈ S.drop k → le x y := by
  intro y hy
  obtain ⟨j, hj⟩ := List.mem_iff_getElem?.1 hy
  rw [List.getElem?_drop] at hj
  exact h.1 (k + j) y zz7 (List.getElem?_eq_some_iff.1 hj).1 hj
 rw [List.pairwise_append, List.pairwise_append]
 refine ⟨⟨hS.sublist (List.take_sublist k S), List.pairwise_singleton _ _, fun a ha b hb => ?_⟩, hS.sublist (List.drop_sublist k S), fun a ha b hb => ?_⟩
 ·
  rw [List.mem_singleton.1 hb]; exact a1 a ha
 ·
  rcases List.mem_append.1 ha with ha | ha
  ·
   exact le_trans (a1 a ha) (a2 b hb)
  ·
   rw [List.mem_singleton.1 ha]; exact a2 b hb
theorem foldl_sorted : ∀ (l S : List ByteArray), S.Pairwise le → (l.foldl rins S).Pairwise le
 | [], S, h => h
 | x :: l, S, h => foldl_sorted l (rins S x) (rins_sorted x S h)
theorem srt_sorted (l : List ByteArray) : (srt l).Pairwise le := by
 rw [srt_rsort]; exact foldl_sorted l [] List.Pairwise.nil
theorem uniq_sorted (P : ByteArray → Prop) (anti : ∀ a b, P a → P b → le a b → le b a → a = b) : ∀ l m : List ByteArray, l.Perm m → (∀ x, x ∈ l → P x) → l.Pairwise le → m.Pairwise le → l = m
 | [], m, hp, _, _, _ => (List.nil_perm.1 hp).symm
 | a :: l, [], hp, _, _, _ => absurd hp.symm (by intro h; have := h.length_eq; simp at this)
 | a :: l, b :: m, hp, hP, hl, hm => by
   have hb : b ∈ a :: l := hp.symm.subset (List.mem_cons_self ..)
   have ha : a ∈ b :: m := hp.subset (List.mem_cons_self ..)
   have refl : ∀ x, le x x := fun x => (le_tot x x).elim id id
   have h1 : le a b := by
    rcases List.mem_cons.1 hb with h | h
    ·
     rw [h]; exact refl a
    ·
     exact (List.pairwise_cons.1 hl).1 b h
   have h2 : le b a := by
    rcases List.mem_cons.1 ha with h | h
    ·
     rw [h]; exact refl b
    ·
     exact (List.pairwise_cons.1 hm).1 a h
   have e := anti a b (hP a (List.mem_cons_self ..)) (hP b hb) h1 h2
   subst e
   rw [uniq_sorted P anti l m (List.perm_cons a |>.1 hp) (fun x hx => hP x (List.mem_cons_of_mem _ hx)) (List.pairwise_cons.1 hl).2 (List.pairwise_cons.1 hm).2]
end Go.Proofs.Ytgddaddoabjgiaa.Srt
namespace Go.Proofs.Ytgddaddoabjgiaa.At
open RowKit YtgddaddoabjgiaaW.PrintWords Bs El Wr Oid Kn Cn Srt Go.Proofs.Ytgddaddoabjgiaa.Ord Cm
set_option linter.unusedVariables false
set_option linter.unusedSimpArgs false
def ElP (a : ByteArray) : Prop := ∃ s : ByteArray, a = elb 0 16 true s ∧ s.size ≤ 100000000
theorem sq_split {a b : ByteArray} (h : ∀ i, sq a i = sq b i) (hs : a.size ≤ b.size) : ∃ r, b = a ++ r := by
 have e : bytesOf a = (bytesOf b).take a.size := by
  apply List.ext_getElem
  ·
   rw [List.length_take, bytesOf_length, bytesOf_length]; omega
  ·
   intro i h1 h2
   have h3 : i < (bytesOf b).length := by rw [List.length_take] at h2; omega
   have h4 := h i
   unfold sq seq at h4
   rw [List.getD_eq_getElem?_getD, List.getD_eq_getElem?_getD, List.getElem?_eq_getElem h1, List.getElem?_eq_getElem h3] at h4
   rw [List.getElem_take]
   exact h4
 refine ⟨strOfNums ((bytesOf b).drop a.size), bytesOf_inj ?_⟩
 rw [bytesOf_append, bytesOf_nums _ (fun x hx => bytes_of b x (List.mem_of_mem_drop hx)), e]
 have hl : ((bytesOf b).take a.size).length = a.size := by rw [List.length_take, bytesOf_length]; omega
 exact (List.take_append_drop a.size (bytesOf b)).symm
theorem app_emp (a : ByteArray) : a ++ ByteArray.empty = a := bytesOf_inj (by rw [bytesOf_append]; simp [bytesOf])
theorem el_anti (a b : ByteArray) (ha : ElP a) (hb : ElP b) (h : Srt.le a b) (g : Srt.le b a) : a = b := by
 have e := le_both h g
 obtain ⟨s, rfl, hs⟩ := ha
 obtain ⟨t, rfl, ht⟩ := hb
 rcases Nat.le_total (elb 0 16 true s).size (elb 0 16 true t).size with hl | hl
 ·
  obtain ⟨r, hr⟩ := sq_split e hl
  have q := elb_pre (r := r) (r' := ByteArray.empty) v16 v16 hs ht (by rw [← hr]; exact (app_emp _).symm)
  rw [q.2.2.2.1]
 ·
  obtain ⟨r, hr⟩ := sq_split (fun i => (e i).symm) hl
  have q := elb_pre (r := r) (r' := ByteArray.empty) v16 v16 ht hs (by rw [← hr]; exact (app_emp _).symm)
  rw [q.2.2.2.1]
theorem attrx_el (a : S47) (h : AttrP a) (ho : attrOk a = true) : ElP (attrx a) := by
 unfold attrx
 rw [if_pos ho]
 refine ⟨_, rfl, ?_⟩
 have h1 := idb_size a.f0 h.1
 have h3 := h.2
 have h2 := leafb_size a.f1 a.f2 zz7
 rw [ByteArray.size_append]
 omega
theorem all_rev {α : Type} (p : α → Bool) (l : List α) : l.reverse.all p = l.all p := by simp
theorem setx_rev (l : List S47) (h : SetP l) : setx l.reverse = setx l := by
 unfold setx
 rw [all_rev]
 by_cases ho : l.all attrOk = true
 ·
  rw [if_pos ho, if_pos ho]
  unfold setb
  have hp : (l.reverse.map attrx).Perm (l.map attrx) := (List.reverse_perm l).map attrx
  rw [uniq_sorted ElP el_anti (srt (l.reverse.map attrx)) (srt (l.map attrx)) ((srt_perm _).trans (hp.trans (srt_perm _).symm)) (fun x hx => by
   obtain ⟨a, ha, rfl⟩ := List.mem_map.1 ((srt_perm _).subset hx)
   have ha2 := List.mem_reverse.1 ha
   exact attrx_el a (h.2 a ha2) (List.all_eq_true.1 ho a ha2)) (srt_sorted _) (srt_sorted _)]
 ·
  rw [if_neg ho, if_neg ho]
theorem nameOk_rev (l : List (List S47)) : nameOk (l.map List.reverse) = nameOk l := by
 unfold nameOk
 rw [List.all_map]
 congr 1
 funext x
 simp [Function.comp, setOk]
theorem nameb_rev (l : List (List S47)) (h : ∀ x, x ∈ l → SetP x) : nameb (l.map List.reverse) = nameb l := by
 unfold nameb
 rw [List.map_map]
 congr 2
 exact List.map_congr_left (fun x hx => setx_rev x (h x hx))
theorem setP_rev {l : List S47} (h : SetP l) : SetP l.reverse := ⟨by rw [List.length_reverse]; exact h.1, fun a ha => h.2 a (List.mem_reverse.1 ha)⟩
end Go.Proofs.Ytgddaddoabjgiaa.At
namespace Go.Proofs.Ytgddaddoabjgiaa.Sl
open RowKit YtgddaddoabjgiaaW.PrintWords YtgddaddoabjgiaaW.PrintLast YtgddaddoabjgiaaW.PrintMore Own
set_option linter.unusedVariables false
def atK {α : Type} (w0 : World) (d : Kd α) : Kd α where
 sz := d.sz
 E := []
 K := fun _ x cs => d.K w0 x cs
 M := fun _ _ _ x cs => d.K w0 x cs
 K_len := fun h => d.K_len h
 K_one := fun h => d.K_one h
 K_below := fun _ h => h
 K_of_M := fun h => h
 M_mono := fun _ h => h
 M_bound := fun h => h
 M_move := fun _ h => h
 M_lower := fun _ h => h
theorem atK_C {α : Type} {d : Kd α} {w0 W : World} {A : Option Addr} {n : Nat} {xs : List α} (h : (atK w0 d).C W A n xs) (hb : Below w0.heap.size w0 W) : d.C W A n xs := ReadsRow.imp_ h (Below.refl _ _) (fun _ _ hp => d.K_below hb hp)
abbrev SV := Option Addr × Nat × Nat
def encS (q : SV) : Value := .slice q.1 q.2.1 q.2.2
def kSV : Kd SV := Kd.scalar encS (fun _ => rfl)
def rows {α : Type} (d : Kd α) (e : Nat) (l : List (SV × List α)) : Ast where
 P w S := ∀ q, q ∈ l → d.R e w 0 S (encS q.1) q.2
 up h hu hd := fun q hq => row_upd (h q hq) hu hd
 mo h hs := fun q hq => row_mono (h q hq) hs
 old h := fun q hq => row_old (h q hq)
section
variable {α : Type} {d : Kd α} {e : Nat} {w0 w : World} {S0 S : Nat → Prop} {r : List Ast} {l : List (SV × List α)}
theorem Hs.rows_snoc {xs : List α} {q : SV} (h : Hs w S (Sl.row d e (encS q) xs :: rows d e l :: r)) : Hs w S (rows d e (l ++ [(q, xs)]) :: r) := by
 obtain ⟨own, h1, h2⟩ := h
 refine ⟨fun k => if own k = 0 then 0 else if own k ≤ 2 then 1 else own k - 1, fun k hk => h1 k (fun h0 => hk (if_pos h0)), fun i a ha => ?_⟩
 cases i with
 | zero =>
   cases ha
   intro p hp
   rcases List.mem_append.1 hp with hp | hp
   ·
    refine row_mono (h2 1 _ rfl p hp) (fun k hk => ?_)
    show (if own k = 0 then 0 else if own k ≤ 2 then 1 else own k - 1) = 0 + 1
    rw [if_neg zz7, if_pos zz7]
   ·
    rw [List.mem_singleton.1 hp]
    refine row_mono (h2 0 _ rfl) (fun k hk => ?_)
    show (if own k = 0 then 0 else if own k ≤ 2 then 1 else own k - 1) = 0 + 1
    rw [if_neg zz7, if_pos zz7]
 | succ i =>
   refine a.mo (h2 (i + 2) a ha) (fun k hk => ?_)
   show (if own k = 0 then 0 else if own k ≤ 2 then 1 else own k - 1) = i + 1 + 1
   rw [if_neg zz7, if_neg zz7]; omega
theorem Sp.rows_snoc {xs : List α} {q : SV} (h : Sp w0 S0 (Sl.row d e (encS q) xs :: rows d e l :: r) w) : Sp w0 S0 (rows d e (l ++ [(q, xs)]) :: r) w := ⟨h.u, h.h.rows_snoc⟩
theorem Hs.rows_nil (d : Kd α) (e : Nat) (h : Hs w S r) : Hs w S (rows d e [] :: r) := by
 obtain ⟨own, h1, h2⟩ := h
 refine ⟨fun k => if own k = 0 then 0 else own k + 1, fun k hk => h1 k (fun h0 => hk (if_pos h0)), fun i a ha => ?_⟩
 cases i with
 | zero => cases ha; intro p hp; cases hp
 | succ i =>
   refine a.mo (h2 i a ha) (fun k hk => ?_)
   show (if own k = 0 then 0 else own k + 1) = i + 1 + 1
   rw [if_neg zz7]; omega
theorem Sp.rows_nil (d : Kd α) (e : Nat) (h : Sp w0 S0 r w) : Sp w0 S0 (rows d e [] :: r) w := ⟨h.u, h.h.rows_nil d e⟩
theorem rows_C {A : Option Addr} {n : Nat} (hC : kSV.C w A n (l.map Prod.fst)) (hR : (rows (atK w0 d) e l).P w S) (hb : Below w0.heap.size w0 w) : (Kd.slice e d).C w A n (l.map Prod.snd) := by
 obtain ⟨h1, h2, h3⟩ := hC
 refine ⟨by rw [List.length_map] at h1 ⊢; exact h1, h2, fun h0 => ?_⟩
 obtain ⟨ad, he, hc⟩ := h3 h0
 refine ⟨ad, he, fun j p hp => ?_⟩
 rw [List.getElem?_map] at hp
 obtain ⟨q, hq, rfl⟩ := Option.map_eq_some_iff.1 hp
 obtain ⟨c, hl, hK, hcell⟩ := hc j q.1 (by rw [List.getElem?_map, hq]; rfl)
 refine ⟨c, hl, ?_, hcell⟩
 obtain ⟨A', c', hv, hle, hr⟩ := Kd.R_reads (hR q (List.mem_of_getElem? hq))
 have hK2 : c = [encS q.1] := hK
 exact ⟨A', c', by rw [hK2, hv], hle, atK_C hr hb⟩
end
end Go.Proofs.Ytgddaddoabjgiaa.Sl
namespace Go.Proofs.Ytgddaddoabjgiaa.At
open RowKit YtgddaddoabjgiaaW.PrintWords YtgddaddoabjgiaaW.PrintLast YtgddaddoabjgiaaW.PrintMore Own Sl Bs El Wr Oid Oidm Kn Cn Srt
set_option linter.unusedVariables false
set_option linter.unusedSimpArgs false
theorem infoA : (Try.prog.info? 47).map (fun i => (i.zero, i.size, i.bytes)) = some (some (.agg #[.slice none 0 0, .int .i64 0, .string ByteArray.empty]), 3, 48) := by kernel_rfl
theorem infoSl : (Try.prog.info? 45).map (fun i => (i.zero, i.size, i.bytes)) = some (some (.slice none 0 0), 1, 24) := by kernel_rfl
theorem rev_take {α : Type} (l : List α) (j : Nat) (y : α) (h : l[j]? = some y) : [y] ++ (l.take j).reverse = (l.take (j + 1)).reverse := by
 rw [List.take_add_one, h, Option.toList_some, List.reverse_append]; rfl
set_option maxHeartbeats 8000000 in
set_option maxRecDepth 100000 in
theorem sorts_any (c : CR) (a : CA) (w : World) (hM : CrM w c a) (hR : Rng c) :
 Calls Try.prog 6 #[.agg (crc c a)] w fun e w' => e = .returned (.bool true) ∧ Below w.heap.size w w' := by
 have hu := Try.underlying27
 have hu2 := Try.underlying47
 have hS := Sp.nil (w := w) (S := None0)
 have HAW := Aside0.mk (fun W => awake_any W)
 have HGR := Aside0.mk (fun (W : World) (h : Upd None0 w W) => great_any c a W (hM.up h))
 have HC := Aside0.mk (fun (hp : CrP c) (W : World) (h : Upd None0 w W) => name_any a.A2 a.c2 c.iss W (hM.up h).m2 hM.l2 hp.iss hp.issl)
 have HD := Aside0.mk (fun (hp : CrP c) (A : Option Addr) (cp : Nat) (W : World) (hC : (Kd.slice 47 k47).C W A (c.iss.map List.reverse).length (c.iss.map List.reverse)) (hl : (c.iss.map List.reverse).length ≤ cp) =>
  name_any A cp (c.iss.map List.reverse) W hC hl (fun x hx => by obtain ⟨y, hy, rfl⟩ := List.mem_map.1 hx; exact setP_rev (hp.iss y hy)) (by rw [List.length_map]; exact hp.issl))
 have HNB := Aside0.mk (fun (hp : CrP c) => And.intro (nameOk_rev c.iss) (nameb_rev c.iss hp.iss))
 have HP := Aside0.mk (fun (h : GB c) => crp_of hR h)
 have HPI := Aside0.mk (fun (hp : CrP c) => And.intro hp.issl (fun x hx => (hp.iss x hx).1))
 have HM2 := Aside0.mk hM.m2
 have hcr : crc c a = #[.bool c.v2, .slice a.A1 c.alg.length a.c1, .slice a.A2 c.iss.length a.c2, .string c.this, .string c.next, .slice a.A5 c.ents.length a.c5, .slice a.A6 c.exts.length a.c6, .string c.sg] := rfl
 rw [hcr] at HGR ⊢
 have hml : (c.iss.map List.reverse).length = c.iss.length := List.length_map ..
 rw [hml] at HD
 obtain ⟨n1, hn1⟩ : ∃ z, c.alg.length = z := ⟨_, rfl⟩
 obtain ⟨n2, hn2⟩ : ∃ z, c.iss.length = z := ⟨_, rfl⟩
 obtain ⟨n5, hn5⟩ : ∃ z, c.ents.length = z := ⟨_, rfl⟩
 obtain ⟨n6, hn6⟩ : ∃ z, c.exts.length = z := ⟨_, rfl⟩
 rw [hn1, hn2, hn5, hn6] at HGR ⊢
 rw [hn2] at HC HD HM2 HPI
 have HN2 := Aside0.mk hn2
 obtain ⟨A1, c1, A2, c2, A5, c5, A6, c6⟩ := a
 obtain ⟨v2, alg, iss, th, nx, ents, exts, sg⟩ := c
 dsimp only at HGR HC HD HNB HPI HM2 HN2 ⊢
 clear hM hR hcr hn1 hn2 hn5 hn6 hml
 go_enter Try.func6, Try.ntmps6
 go_upto_if 20 with (first
  | ((with_reducible refine gate_dst (N := 1) rfl ?_)
     refine sp_box hS rfl (N := 1) rfl #[.bool v2, .slice A1 n1 c1, .slice A2 n2 c2, .string th, .string nx, .slice A5 n5 c5, .slice A6 n6 c6, .string sg] 27 zz20 ?_
     intro ga w1 hg1 hS
     obtain ⟨k0, k1, k2, k3, k4, k5, k6, k7⟩ := hS.cells8 0)
  | (go_at_call 8
     (with_reducible refine (HAW.out _).mono ?_)
     rintro e w4 ⟨rfl, hun⟩
     replace hS := hS.toN hun
     clear k0 k1 k2 k3 k4 k5 k6 k7 hun
     obtain ⟨k0, k1, k2, k3, k4, k5, k6, k7⟩ := hS.cells8 0)
  | (go_at_call 9
     (with_reducible refine (HGR.out _ hS.lt.u).mono ?_)
     rintro e w4 ⟨⟨b, rfl, hb⟩, hun⟩
     replace hS := hS.toN hun
     have HB := Aside0.mk hb
     clear hb
     clear k0 k1 k2 k3 k4 k5 k6 k7 hun
     obtain ⟨k0, k1, k2, k3, k4, k5, k6, k7⟩ := hS.cells8 0))
 cases b
 case true =>
  go_wp2_with (first
   | (go_at_call 8
      (with_reducible refine (HAW.out _).mono ?_)
      rintro e w4 ⟨rfl, hun⟩
      replace hS := hS.toN hun
      clear k0 k1 k2 k3 k4 k5 k6 k7 hun
      obtain ⟨k0, k1, k2, k3, k4, k5, k6, k7⟩ := hS.cells8 0))
  go_ret
  exact ⟨rfl, hS.lt.u.below0⟩
 have hp := HP.out (HB.out zz43)
 have H1 := Aside0.mk (HC.out hp)
 have HD2 := Aside0.mk (HD.out hp)
 have HNB2 := Aside0.mk (HNB.out hp)
 have HPI2 := Aside0.mk (HPI.out hp)
 clear HC HD HNB HP HPI HB HGR HAW hp
 replace hS := (hS.rows_nil (atK w k47) 47).nilrow kSV 45
 clear k0 k1 k2 k3 k4 k5 k6 k7
 obtain ⟨k0, k1, k2, k3, k4, k5, k6, k7⟩ := hS.cells8 2
 go_wp2
 go_loopg [3, 25] n2 (fun gk v3 v25 wr => ∃ (i : Nat) (A3 : Option Addr) (c3 : Nat) (l : List (SV × List S47)), v3 = .slice A3 i c3 ∧ v25 = .int .i64 (i : Int) ∧ Aside0 (i ≤ n2 ∧ n2 - i ≤ gk ∧ l.length = i ∧ l.map Prod.snd = (iss.take i).map List.reverse) ∧ Aside0 (Sp w None0 [row kSV 45 (.slice A3 i c3) (l.map Prod.fst), rows (atK w k47) 47 l, blk ga #[.bool v2, .slice A1 n1 c1, .slice A2 n2 c2, .string th, .string nx, .slice A5 n5 c5, .slice A6 n6 c6, .string sg] 27] wr))
 case atStart => exact ⟨0, none, 0, [], rfl, rfl, ⟨Nat.zero_le _, zz7, rfl, rfl⟩, ⟨by exact hS.lt⟩⟩
 case round =>
  clear hS k0 k1 k2 k3 k4 k5 k6 k7
  obtain ⟨i, A3, c3, l, rfl, rfl, HI, HS⟩ := hrel
  have hS := HS.out
  clear HS
  obtain ⟨k0, k1, k2, k3, k4, k5, k6, k7⟩ := hS.cells8 2
  have hi00 : (0 : Int) ≤ (i : Int) := by omega
  by_cases hlt : i < n2
  case neg =>
   have hd : decide (i < n2) = false := decide_eq_false hlt
   have hd2 : decide ((i : Int) < (n2 : Int)) = false := decide_eq_false zz7
   have hi2 : n2 = i := by have := HI.out.1; omega
   have hlc := HI.out.2.2.1
   have hml := HI.out.2.2.2
   clear HI hlt
   subst hi2
   have hil : iss.take n2 = iss := List.take_of_length_le (by have := HN2.out; omega)
   rw [hil] at hml
   have hcap : n2 ≤ c3 := by
    obtain ⟨A', c', hv, hle, _⟩ := Kd.R_reads (hS.row 0 rfl)
    simp only [Value.slice.injEq] at hv
    rw [List.length_map, hlc] at hle
    omega
   have H2 := Aside0.mk (show ∀ W : World, Sp w None0 [row kSV 45 (.slice A3 n2 c3) (l.map Prod.fst), rows (atK w k47) 47 l, blk ga #[.bool v2, .slice A1 n1 c1, .slice A2 n2 c2, .string th, .string nx, .slice A5 n5 c5, .slice A6 n6 c6, .string sg] 27] W → _ from
    fun W (h : Sp w None0 [row kSV 45 (.slice A3 n2 c3) (l.map Prod.fst), rows (atK w k47) 47 l, blk ga #[.bool v2, .slice A1 n1 c1, .slice A2 n2 c2, .string th, .string nx, .slice A5 n5 c5, .slice A6 n6 c6, .string sg] 27] W) => HD2.out A3 c3 W (by rw [← hml]; exact rows_C (h.reads 0) (h.h.get 1 _ rfl) h.u.below0) hcap)
   rw [HNB2.out.1, HNB2.out.2] at H2
   clear hil hml hcap hlc HD2 HNB2 HPI2 HN2
   obtain ⟨x1, hx1⟩ : ∃ z, (if nameOk iss then nameb iss else ByteArray.empty) = z := ⟨_, rfl⟩
   obtain ⟨o1, ho1⟩ : ∃ z, nameOk iss = z := ⟨_, rfl⟩
   rw [hx1, ho1] at H1 H2
   clear hx1 ho1
   go_wp2_with (first
    | (go_at_call 14
       first
       | ((with_reducible refine (H1.out _ hS.lt.u).mono ?_)
          rintro e w4 ⟨rfl, hun⟩
          replace hS := hS.toN hun
          clear k0 k1 k2 k3 k4 k5 k6 k7 hun
          obtain ⟨k0, k1, k2, k3, k4, k5, k6, k7⟩ := hS.cells8 2)
       | ((with_reducible refine (H2.out _ (by exact hS.lt)).mono ?_)
          rintro e w4 ⟨rfl, hun⟩
          replace hS := hS.toN hun
          clear k0 k1 k2 k3 k4 k5 k6 k7 hun
          obtain ⟨k0, k1, k2, k3, k4, k5, k6, k7⟩ := hS.cells8 2)))
   go_ret
   exact ⟨rfl, hS.lt.u.below0⟩
  have hd : decide (i < n2) = true := decide_eq_true hlt
  have hd2 : decide ((i : Int) < (n2 : Int)) = true := decide_eq_true zz7
  have hil : i < iss.length := by rw [HN2.out]; exact hlt
  have hxi := rd_some iss i ([] : List S47) hil
  obtain ⟨ad, A0, c0, rfl, h0, hl0, hi0⟩ := at_L7 HM2.out (i : Int) zz7 zz7
  rw [Int.toNat_natCast] at h0
  obtain ⟨x, hx⟩ : ∃ x, rd_L7 iss (i : Int) = x := ⟨_, rfl⟩
  have hxx : iss[i]? = some x := hx ▸ hxi
  rw [hx] at h0 hl0 hi0
  replace h0 := up_cell hS.u h0
  have hxl := HPI2.out.2 x (List.mem_of_getElem? hxx)
  have hw1 : IntKind.i64.wrap ((i : Int) + 1) = ((i + 1 : Nat) : Int) := by have := HPI2.out.1; rw [IntKind.wrap_i64]; omega
  have hlti : (i : Int) < (n2 : Int) := by omega
  obtain ⟨m, hm⟩ : ∃ m, x.length = m := ⟨_, rfl⟩
  rw [hm] at h0 hi0 hxl
  have HXC := Aside0.mk hi0
  have HXM := Aside0.mk hm
  have HXX := Aside0.mk hxx
  have HXL := Aside0.mk hxl
  obtain ⟨go, hgo⟩ : ∃ g, g = gk := ⟨_, rfl⟩
  have HGO := Aside0.mk hgo
  have HLT := Aside0.mk hlt
  clear hil hxi hx hxx hl0 hi0 hm hxl hgo hlt
  replace hS := hS.nilrow (atK w k47) 47
  go_wp2
  go_loopg [6, 31] m (fun gk v6 v31 wr => ∃ (j : Nat) (A8 : Option Addr) (c8 : Nat), v6 = .slice A8 j c8 ∧ v31 = .int .i64 (j : Int) ∧ Aside0 (j ≤ m ∧ m - j ≤ gk) ∧ Aside0 (Sp w None0 [row (atK w k47) 47 (.slice A8 j c8) (x.take j).reverse, row kSV 45 (.slice A3 i c3) (l.map Prod.fst), rows (atK w k47) 47 l, blk ga #[.bool v2, .slice A1 n1 c1, .slice (some ad) n2 c2, .string th, .string nx, .slice A5 n5 c5, .slice A6 n6 c6, .string sg] 27] wr))
  case atStart => exact ⟨0, none, 0, rfl, rfl, ⟨Nat.zero_le _, zz7⟩, ⟨by exact hS.lt⟩⟩
  case round =>
   clear hS k0 k1 k2 k3 k4 k5 k6 k7 h0 hd hd2 hlti
   obtain ⟨j, A8, c8, rfl, rfl, HJ, HS⟩ := hrel
   have hS := HS.out
   clear HS
   have hj00 : (0 : Int) ≤ (j : Int) := by omega
   by_cases hlj : j < m
   case neg =>
    have hd : decide (j < m) = false := decide_eq_false hlj
    have hd2 : decide ((j : Int) < (m : Int)) = false := decide_eq_false zz7
    have hj2 : m = j := by have := HJ.out.1; omega
    clear HJ hlj
    subst hj2
    have hil : x.take m = x := List.take_of_length_le (by have := HXM.out; omega)
    rw [hil] at hS
    have HLV := Aside0.mk (show ((l.map Prod.fst).length + 1) * 24 ≤ 140737488355328 by rw [List.length_map, HI.out.2.2.1]; have := HPI2.out.1; have := HLT.out; omega)
    obtain ⟨VS, hVS⟩ : ∃ z, l.map Prod.fst = z := ⟨_, rfl⟩
    have HL2 := Aside0.mk (show (l ++ [((A8, m, c8), x.reverse)]).map Prod.fst = VS ++ [(A8, m, c8)] by rw [List.map_append, hVS]; rfl)
    have HL3 := Aside0.mk (show (l ++ [((A8, m, c8), x.reverse)]).map Prod.snd = (iss.take (i + 1)).map List.reverse by
     rw [List.map_append, HI.out.2.2.2, List.take_add_one, HXX.out, Option.toList_some, List.map_append]; rfl)
    have HL4 := Aside0.mk (show (VS ++ [(A8, m, c8)]).length = i + 1 by rw [← hVS, List.length_append, List.length_map, HI.out.2.2.1]; rfl)
    obtain ⟨VS2, hVS2⟩ : ∃ z, VS ++ [(A8, m, c8)] = z := ⟨_, rfl⟩
    have HVS := Aside0.mk hVS2
    rw [hVS] at hS HLV
    rw [hVS2] at HL2 HL4
    clear hil hVS hVS2
    go_wp2_with (first
     | ((with_reducible refine gate_builtin (b := .append) (xs := #[.tmp 40, .tmp 42]) rfl ?_); (try at_builtin)
        refine sp_app kSV hS 1 rfl (.tmp 40) (.tmp 42) 23 45 (.slice none 0 0) 24 rfl Try.underlying23 infoSl rfl zz13 zz13 (.slice A3 i c3) VS (A8, m, c8) [.slice A8 m c8] rfl rfl (by exact rfl) rfl HLV.out VS2 HVS.out _ (fun _ _ => rfl) ?_
        intro A9 c9 w6 hS))
    rw [HL4.out] at hS
    go_roundg (go - 1)
    case measure => have := HI.out.2.1; have := HGO.out; have := HLT.out; omega
    case rel =>
     refine ⟨i + 1, A9, c9, l ++ [((A8, m, c8), x.reverse)], by rw [HL4.out], rfl, ⟨by have := HLT.out; omega, by have := HI.out.2.1; have := HGO.out; omega, by rw [List.length_append, HI.out.2.2.1]; rfl, HL3.out⟩, ⟨?_⟩⟩
     rw [HL2.out]
     exact (Sp.rows_snoc (q := (A8, m, c8)) (Sp.sel (l2 := [row (atK w k47) 47 (.slice A8 m c8) x.reverse, rows (atK w k47) 47 l, row kSV 45 (.slice A9 (i + 1) c9) VS2, blk ga #[.bool v2, .slice A1 n1 c1, .slice (some ad) n2 c2, .string th, .string nx, .slice A5 n5 c5, .slice A6 n6 c6, .string sg] 27]) hS.lt [0, 2, 1, 3])).swap
   have hd : decide (j < m) = true := decide_eq_true hlj
   have hd2 : decide ((j : Int) < (m : Int)) = true := decide_eq_true zz7
   have hjl : j < x.length := by rw [HXM.out]; exact hlj
   have hyj := rd_some x j z47 hjl
   have hK := HXC.out
   obtain ⟨ae, AA, cc, rfl, h0, h1, h2, hl1, hi1⟩ := at_T47 hK (j : Int) zz7 zz7
   have h0w := h0
   replace h0 := up_cell hS.u h0
   replace h1 := up_cell hS.u h1
   replace h2 := up_cell hS.u h2
   rw [Int.toNat_natCast] at h0 h1 h2
   obtain ⟨y, hy⟩ : ∃ y, rd_T47 x (j : Int) = y := ⟨_, rfl⟩
   have hyy : x[j]? = some y := hy ▸ hyj
   rw [hy] at h0 h1 h2 hl1 hi1
   have HY3 := Aside0.mk (show (atK w k47).M w 0 (fun _ => False) y [.slice AA y.f0.length cc, .int .i64 y.f1, .string y.f2] from k47_mk w y hl1 hi1)
   have HL7 := Aside0.mk (rev_take x j y hyy)
   have HLE := Aside0.mk (show ([y].length + j) * 48 ≤ 140737488355328 by have := HXL.out; simp; omega)
   have hltj : (j : Int) < (m : Int) := by omega
   have hw2 : IntKind.i64.wrap ((j : Int) + 1) = ((j + 1 : Nat) : Int) := by have := HXL.out; rw [IntKind.wrap_i64]; omega
   obtain ⟨L6, hL6⟩ : ∃ z, (x.take j).reverse = z := ⟨_, rfl⟩
   obtain ⟨L7, hL7⟩ : ∃ z, (x.take (j + 1)).reverse = z := ⟨_, rfl⟩
   have HLL := Aside0.mk (show L7.length = j + 1 by rw [← hL7, List.length_reverse, List.length_take]; omega)
   have HL8 := Aside0.mk hL7
   rw [hL6] at hS HL7
   rw [hL7] at HL7
   obtain ⟨q, hq⟩ : ∃ q, y.f0.length = q := ⟨_, rfl⟩
   rw [hq] at h0 HY3
   obtain ⟨yt, hyt⟩ : ∃ q, y.f1 = q := ⟨_, rfl⟩
   obtain ⟨ys, hys⟩ : ∃ q, y.f2 = q := ⟨_, rfl⟩
   rw [hyt] at h1 HY3
   rw [hys] at h2 HY3
   have hlj2 := HJ.out.2
   clear hjl hyj hy hyy hl1 hi1 hq hyt hys hL6 hL7 hK h0w hlj
   go_wp2_with (first
    | ((with_reducible refine gate_dst (N := 8) rfl ?_)
       refine sp_box hS rfl (N := 8) rfl #[.slice none 0 0, .int .i64 0, .string ⟨#[]⟩] 47 zz20 ?_
       intro gx w3 hg3 hS)
    | ((with_reducible refine gate_store (t := 47) (p := 8) (v := .tmp 34) rfl ?_)
       refine sp_row hS 0 rfl 47 (.tmp 8) (.tmp 34) rfl rfl gx #[.slice AA q cc, .int .i64 yt, .string ys] rfl rfl 47 _ rfl zz4 rfl zz82 rfl ?_
       intro w4 hS
       obtain ⟨r0, r1, r2⟩ := hS.cells3 0
       have HR := Aside0.mk (hS.reads 1))
    | ((with_reducible refine gate_dst (N := 36) rfl ?_)
       refine sp_lit (atK w k47) hS 47 rfl (N := 36) rfl [y] [.slice AA q cc, .int .i64 yt, .string ys] zz20 (reps_one HY3.out rfl) zz43 ?_
       intro A7 c7 w5 hS
       replace HR := Aside0.mk (hS.reads 2))
    | ((with_reducible refine gate_builtin (b := .append) (xs := #[.tmp 36, .tmp 37]) rfl ?_); (try at_builtin)
       refine sp_apps (atK w k47) hS 0 rfl (.tmp 36) (.tmp 37) 45 47 (.agg #[.slice none 0 0, .int .i64 0, .string ByteArray.empty]) 48 rfl Try.underlying45 infoA rfl (show 0 < 3 by decide) zz13 (.slice A7 1 c7) [y] L6 A8 j c8 rfl rfl rfl (by exact cl_ HR) (fun _ _ h => h) HLE.out L7 HL7.out _ (fun _ _ => rfl) ?_
       intro A9 c9 w6 hS
       clear r0 r1 r2))
   rw [HLL.out] at hS
   go_roundg (gk - 1)
   case measure => omega
   case rel => exact ⟨j + 1, A9, c9, by rw [HLL.out], rfl, ⟨zz7, zz7⟩, ⟨by rw [HL8.out]; exact Sp.sel (l2 := [row (atK w k47) 47 (.slice A9 (j + 1) c9) L7, row kSV 45 (.slice A3 i c3) (l.map Prod.fst), rows (atK w k47) 47 l, blk ga #[.bool v2, .slice A1 n1 c1, .slice (some ad) n2 c2, .string th, .string nx, .slice A5 n5 c5, .slice A6 n6 c6, .string sg] 27]) hS.lt [0, 3, 4, 5]⟩⟩
end Go.Proofs.Ytgddaddoabjgiaa.At
namespace Go.Proofs.Ytgddaddoabjgiaa.encodeSorts
open Go.ChangeShapes Go.WideShapes Go.ChangeAt RowKit Go.Joins
open Go.ChangeMaps (open_string shut_string)
set_option linter.unusedVariables false
set_option linter.unusedSimpArgs false
theorem own : ownKnob Try.prog.godebug = none := by kernel_rfl
theorem laidOut : laidOutB Try.prog = true := by kernel_rfl
set_option maxRecDepth 100000 in
theorem lifted (os : Os) (started : os.Started) (H : Type) (enc : TypeId × Value → H) :
 ReturnsInHanded {} Try.checked os 6 .any (Rows.encodeSortsSpec.pre6 enc Try.prog Try.f6 Rows.encodeSortsRow.domain false) (Rows.encodeSortsSpec.post enc Try.prog Try.f6 false true false false) := by
 refine returnsInHanded_of_change_sized (C := Try.checked) own started zz4 Try.func6
  (ChangeSpec.witness6 (enc := enc) (C := Try.checked) false ⟨#[], #[.agg #[.bool false, .slice none 0 0, .slice none 0 0, .string ByteArray.empty, .string ByteArray.empty, .slice none 0 0, .slice none 0 0, .string ByteArray.empty]], []⟩ 8 zz4 zz4 zz4 zz4) ?_
 intro W base args ds gs before hval0 hW hcnd hsz0 _
 have hsz : (DataW.weightsEach Try.prog (Try.f6.params.toList ++ Rows.encodeSortsSpec.plain.varTypes Try.prog) (ds ++ gs)).all (· ≤ reachBytes) = true := hsz0
 have hval : ∀ (j : Nat) t v, Try.f6.params[j]? = some t → args[j]? = some v → Value.okWide Try.prog W .any base t v := hval0
 have hW' := hW
 obtain ⟨p, q, hA0, hV, rfl, hfz, hnd⟩ := hW
 have hA : DataW.TrodAll enc Try.prog W 0 (fun _ => true) true Try.f6.params.toList args.toList ds p := hA0
 rw [Try.params6] at hA hval hsz
 obtain ⟨v0, vs0, d0, ds0, p0, q0, hargs, rfl, rfl, h0, r0⟩ := trodAll_cons hA
 obtain ⟨rfl, rfl, rfl⟩ := trodAll_nil r0
 obtain rfl : args = #[v0] := by cases args; simp_all
 obtain ⟨rfl, rfl⟩ := trodVars_none hV
 have k0 := h0
 have lt0 : ∀ x ∈ p0, x.block < W.heap.size := by obtain ⟨m, hm⟩ := k0; exact DataW.trod_lt m _ _ _ hm
 obtain ⟨c0, a0, rfl, m0, g0⟩ := BCr.crl_open (hval 0 27 v0 rfl rfl) h0
 clear hA0 hval0 hsz0 hsz
 refine (At.sorts_any c0 a0 W m0 g0).mono fun e W' ⟨he, bel⟩ => ?_
 subst he
 exact ⟨_, rfl, _, _, _, [], _, [], hW', trodAll_mk1 (shut_bool Try.underlying4 _), (trodAll_cons_mk (Below.trod laidOut zz4 (of_decide_eq_true zz4) k0 bel lt0) trodAll_mk0), rfl, bel.frame _, fun h => by cases h⟩
theorem over : Rows.encodeSortsRow.holds Try.pinned (OpenSpec.ofChange Rows.encodeSortsSpec) :=
 OpenClaim.holds_of_wide 6 Try.f6 rfl rfl rfl rfl rfl rfl rfl ⟨rfl, rfl, rfl, rfl, rfl⟩ rfl rfl rfl rfl rfl zz4 Try.func6 zz4
  (of_decide_eq_true zz4) (by unfold Func.isWrapper; first | (rw [if_pos (by decide +kernel)]; kernel_rfl) | (rw [if_neg (by decide +kernel)]; exact ⟨rfl, rfl⟩))
  (fun os started H enc _ => lifted os started H enc)
theorem proved : Rows.EncodeSortsSaid := over
#print axioms proved
end Go.Proofs.Ytgddaddoabjgiaa.encodeSorts
namespace Go.Proofs.Ytgddaddoabjgiaa
theorem encodeSorts_holds : Rows.EncodeSortsSaid := encodeSorts.proved
end Go.Proofs.Ytgddaddoabjgiaa
