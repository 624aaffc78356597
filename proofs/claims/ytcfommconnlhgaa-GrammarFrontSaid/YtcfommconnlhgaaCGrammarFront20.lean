/- What the row of GrammarFront stands on, made small by a program of this session (pack.py). -/
import Derived.ArgAppend
import Derived.Below
import Derived.BigQuiet
import Derived.Deep.AppendLies
import Derived.Deep.CutBlock
import Derived.Deep.DeepCutAuto
import Derived.Deep.Draws
import Derived.Deep.LoopGhost
import Derived.Deep.OwnRows
import Derived.Deep.QuietTactic
import Derived.Deep.RegionHeld3
import Derived.Deep.RegionLaw
import Derived.KernelRfl
import Derived.Laws.BitsLemmas
import Derived.Laws.BytesArg
import Derived.Laws.EntriesVeiled
import Derived.Laws.IdiomCopy
import Derived.Laws.MakeOwn
import Derived.Laws.OwnMore
import Derived.Laws.Rows
import Derived.Laws.Slices
import Derived.Lib.AppendStr
import Derived.Lib.ConvBytes
import Derived.Maps.AppendAt
import Derived.OrdersHeld
import Derived.Outline
import Derived.OwnWalk
import Derived.RowKit
import Derived.RowKit3
import Derived.Tactics
import Derived.Test.YtcfommconnlhgaaProg
import Derived.WalkKit
import Derived.WideLaws
import Derived.Test.YtcfommconnlhgaaCGrammarFront2
import Derived.Test.YtcfommconnlhgaaCGrammarFront3
import Derived.Test.YtcfommconnlhgaaCGrammarFront6
import Derived.Test.YtcfommconnlhgaaCGrammarFront8
import Derived.Test.YtcfommconnlhgaaCGrammarFront9
import Derived.Test.YtcfommconnlhgaaCGrammarFront10
import Derived.Test.YtcfommconnlhgaaCGrammarFront19
namespace Go.Proofs.Ytcfommconnlhgaa.Gm
open RowKit PC YtcfommconnlhgaaW.PrintWords YtcfommconnlhgaaW.PrintLast YtcfommconnlhgaaW.PrintMore Own Sl
open Bs Vp
set_option linter.unusedVariables false
set_option linter.unusedSimpArgs false
theorem infoF : (Try.prog.info? 90).map (fun i => (i.zero, i.size, i.bytes)) = some (some (.agg #[.int .i64 0, .int .i64 0]), 2, 16) := by kernel_rfl
set_option maxHeartbeats 8000000 in
set_option maxRecDepth 100000 in
theorem look1 (g : Nat) (s : Gs) (d : Nat) (hg : Okg s d) (hd : d ≤ 900000000) (at_ cl tag : Int) (cons : Bool) (ln b : Int) (w : World) (S : Nat → Prop) (h : Hs w S [gk g (some s)]) :
 Calls Try.prog 17 #[.pointer (some ⟨g, 0, none⟩), .agg #[.int .i64 1, .int .i64 at_, .int .i64 cl, .int .i64 tag, .bool cons, .int .i64 ln, .int .u8 b]] w fun e w' => e = .returned (.int .i64 (headG s.ver (topG s.st) ⟨cl, tag, cons, ln⟩)) ∧
  Sp w S [gk g (some ⟨(headG s.ver (topG s.st) ⟨cl, tag, cons, ln⟩, 0) :: setG s.st (headG s.ver (topG s.st) ⟨cl, tag, cons, ln⟩), s.leaf, s.ver⟩)] w' := by
 have hS := Sp.start h
 have hu := Try.underlying34
 have hu1 := Try.underlying32
 have hu2 := Try.underlying54
 have hu3 := Try.underlying90
 have HH := Aside0.mk (head_any g s d hg zz4 cl tag cons ln)
 have hlen := (set_ins (ver := s.ver) (h := ⟨cl, tag, cons, ln⟩) hg.ins).2
 obtain ⟨p, hp⟩ : ∃ p, headG s.ver (topG s.st) ⟨cl, tag, cons, ln⟩ = p := ⟨_, rfl⟩
 rw [hp] at HH hlen ⊢
 obtain ⟨st2, hst⟩ : ∃ st2, setG s.st p = st2 := ⟨_, rfl⟩
 rw [hst] at HH hlen ⊢
 obtain ⟨lf, hlf⟩ : ∃ x, s.leaf = x := ⟨_, rfl⟩
 obtain ⟨vr, hvr⟩ : ∃ x, s.ver = x := ⟨_, rfl⟩
 rw [hlf, hvr] at HH ⊢
 have HL := Aside0.mk (show st2.reverse.length ≤ 900000001 by rw [List.length_reverse, hlen, hg.len]; omega)
 clear h hp hst hlf hvr hg hlen
 go_enter Try.func17, Try.ntmps17
 go_upto_region 4 with (first
  | ((with_reducible refine gate_dst (N := 3) rfl ?_)
     refine sp_box hS rfl (N := 3) rfl _ 34 zz1 ?_
     intro ge w1 hge hS
     obtain ⟨e0, e1, e2, e3, e4, e5, e6⟩ := hS.cells7 0
     replace hS := hS.swap)
  | (go_at_call 31
     (with_reducible refine (HH.out _ (hS.ft 1) zz28).mono ?_)
     rintro e w3 ⟨rfl, hq⟩
     replace hS := hS.post1 hq))
 obtain ⟨q, hS⟩ := hS.ex0
 replace hS := hS.flat
 obtain ⟨A, cA⟩ := q
 obtain ⟨L, hL⟩ : ∃ L, st2.reverse = L := ⟨_, rfl⟩
 have HLE := Aside0.mk hL
 obtain ⟨nn, hnn⟩ : ∃ nn, L.length = nn := ⟨_, rfl⟩
 have HNN := Aside0.mk hnn
 simp only [hL, hnn] at hS HL
 clear e0 e1 e2 e3 e4 e5 e6 hL hnn
 obtain ⟨k0, k1, k2, k3⟩ := hS.cells4 0
 have HLB := Aside0.mk (show (L.length + 1) * 16 ≤ 140737488355328 by have h1 := HL.out; have h2 := HNN.out; omega)
 obtain ⟨L2, hL2⟩ : ∃ L2, L ++ [(p, 0)] = L2 := ⟨_, rfl⟩
 have HL2 := Aside0.mk hL2
 clear hL2
 go_wp2_with (first
  | ((with_reducible refine gate_builtin (b := .append) (xs := #[.tmp 21, .tmp 24]) rfl ?_); (try at_builtin)
     refine sp_app kF hS 1 rfl (.tmp 21) (.tmp 24) 52 90 (.agg #[.int .i64 0, .int .i64 0]) 16 rfl Try.underlying52 infoF rfl (show 0 < 2 by decide) zz8 _ L (p, 0) [.int .i64 p, .int .i64 0] rfl rfl (kF_mkM _ _ _ (p, 0)) rfl HLB.out L2 HL2.out _ (fun _ _ => rfl) ?_
     intro A4 c4 w4 hS
     clear k0 k1 k2 k3
     obtain ⟨k0, k1, k2, k3⟩ := hS.cells4 0
     have kf := hS.fz 0))
 go_ret
 exact ⟨rfl, gk_shut (Sp.sel (l2 := [blk g #[.slice A4 L2.length c4, .int .i64 lf, .bool vr, .bool false] 54, row kF 90 (.slice A4 L2.length c4) L2]) ((hS.set_ 0 0 _).lt) [0, 1]) rfl (by rw [← HL2.out, ← HLE.out, List.reverse_cons])⟩
set_option maxHeartbeats 8000000 in
set_option maxRecDepth 100000 in
theorem look2 (g : Nat) (s : Gs) (d : Nat) (hg : Okg s d) (hd : d ≤ 900000000) (at_ cl tag : Int) (cons : Bool) (ln b : Int) (w : World) (S : Nat → Prop) (h : Hs w S [gk g (some s)]) :
 Calls Try.prog 17 #[.pointer (some ⟨g, 0, none⟩), .agg #[.int .i64 2, .int .i64 at_, .int .i64 cl, .int .i64 tag, .bool cons, .int .i64 ln, .int .u8 b]] w fun e w' => e = .returned (.int .i64 (headG s.ver (topG s.st) ⟨cl, tag, cons, ln⟩)) ∧
  Sp w S [gk g (some ⟨setG s.st (headG s.ver (topG s.st) ⟨cl, tag, cons, ln⟩), headG s.ver (topG s.st) ⟨cl, tag, cons, ln⟩, s.ver || (headG s.ver (topG s.st) ⟨cl, tag, cons, ln⟩ == 3)⟩)] w' := by
 have hS := Sp.start h
 have hu := Try.underlying34
 have hu1 := Try.underlying32
 have hu2 := Try.underlying54
 have hu3 := Try.underlying90
 have HH := Aside0.mk (head_any g s d hg zz4 cl tag cons ln)
 obtain ⟨p, hp⟩ : ∃ p, headG s.ver (topG s.st) ⟨cl, tag, cons, ln⟩ = p := ⟨_, rfl⟩
 rw [hp] at HH ⊢
 obtain ⟨st2, hst⟩ : ∃ st2, setG s.st p = st2 := ⟨_, rfl⟩
 rw [hst] at HH ⊢
 obtain ⟨lf, hlf⟩ : ∃ x, s.leaf = x := ⟨_, rfl⟩
 obtain ⟨vr, hvr⟩ : ∃ x, s.ver = x := ⟨_, rfl⟩
 rw [hlf, hvr] at HH
 rw [hvr]
 clear h hp hst hlf hvr hg hd
 cases vr <;> cases e3 : (p == 3)
 all_goals
  simp only [Bool.false_or, Bool.true_or]
  go_enter Try.func17, Try.ntmps17
  go_wp2_with (first
   | ((with_reducible refine gate_dst (N := 3) rfl ?_)
      refine sp_box hS rfl (N := 3) rfl _ 34 zz1 ?_
      intro ge w1 hge hS
      obtain ⟨e0, e1, e2, e3, e4, e5, e6⟩ := hS.cells7 0
      replace hS := hS.swap)
   | (go_at_call 31
      (with_reducible refine (HH.out _ (hS.ft 1) zz28).mono ?_)
      rintro e w3 ⟨rfl, hq⟩
      replace hS := hS.post1 hq
      obtain ⟨q, hS⟩ := hS.ex0
      replace hS := hS.flat
      obtain ⟨A, cA⟩ := q
      obtain ⟨k0, k1, k2, k3⟩ := hS.cells4 0
      have kf := hS.fz 0))
  go_ret
  exact ⟨rfl, gk_shut (Sp.sel (l2 := [blk g #[.slice A st2.reverse.length cA, .int .i64 p, .bool _, .bool false] 54, row kF 90 (.slice A st2.reverse.length cA) st2.reverse]) (((hS.set_ 0 1 _).set_ 0 2 _).lt) [0, 1]) rfl rfl⟩
set_option maxHeartbeats 8000000 in
set_option maxRecDepth 100000 in
theorem look3 (g : Nat) (s : Gs) (at_ cl tag : Int) (cons : Bool) (ln b : Int) (w : World) (S : Nat → Prop) (h : Hs w S [gk g (some s)]) :
 Calls Try.prog 17 #[.pointer (some ⟨g, 0, none⟩), .agg #[.int .i64 3, .int .i64 at_, .int .i64 cl, .int .i64 tag, .bool cons, .int .i64 ln, .int .u8 b]] w fun e w' => e = .returned (.int .i64 (if (s.leaf = 3 ∧ b ≠ 1) ∨ (s.leaf = 19 ∧ b ≠ 255) then 0 else s.leaf)) ∧ Sp w S [gk g (some s)] w' := by
 obtain ⟨A, cA, hS⟩ := gk_open h
 have hu := Try.underlying34
 have hu1 := Try.underlying32
 have hu2 := Try.underlying54
 obtain ⟨st, lf, vr⟩ := s
 obtain ⟨r, hr⟩ : ∃ r, (if (lf = 3 ∧ b ≠ 1) ∨ (lf = 19 ∧ b ≠ 255) then 0 else lf) = r := ⟨_, rfl⟩
 show Calls _ _ _ _ fun e w' => e = .returned (.int .i64 (if (lf = 3 ∧ b ≠ 1) ∨ (lf = 19 ∧ b ≠ 255) then 0 else lf)) ∧ Sp w S [gk g (some ⟨st, lf, vr⟩)] w'
 rw [hr]
 have hS : Sp w S [blk g #[.slice A st.reverse.length cA, .int .i64 lf, .bool vr, .bool false] 54, row kF 90 (.slice A st.reverse.length cA) st.reverse] w := hS
 clear h
 have hc : (lf = 3 ∧ (b == 1) = true ∧ r = 3) ∨ (lf = 3 ∧ (b == 1) = false ∧ r = 0) ∨ (lf = 19 ∧ (b == 255) = true ∧ r = 19) ∨ (lf = 19 ∧ (b == 255) = false ∧ r = 0) ∨ ((lf == 3) = false ∧ (lf == 19) = false ∧ r = lf) := by
  simp only [beq_iff_eq, beq_eq_false_iff_ne, ne_eq]
  rw [← hr]
  split <;> omega
 clear hr
 rcases hc with ⟨rfl, c2, hr⟩ | ⟨rfl, c2, hr⟩ | ⟨rfl, c4, hr⟩ | ⟨rfl, c4, hr⟩ | ⟨c1, c3, hr⟩
 all_goals
  rw [hr]
  clear hr
  have n1 : (b != 1) = !(b == 1) := rfl
  have n255 : (b != 255) = !(b == 255) := rfl
  first
  | (rw [c2] at n1; clear n255; simp only [Bool.not_true, Bool.not_false] at n1)
  | (rw [c4] at n255; clear n1; simp only [Bool.not_true, Bool.not_false] at n255)
  | clear n1 n255
  go_enter Try.func17, Try.ntmps17
  go_wp2_with (first
   | ((with_reducible refine gate_dst (N := 3) rfl ?_)
      refine sp_box hS rfl (N := 3) rfl _ 34 zz1 ?_
      intro ge w1 hge hS
      obtain ⟨e0, e1, e2, e3, e4, e5, e6⟩ := hS.cells7 0
      obtain ⟨k0, k1, k2, k3⟩ := hS.cells4 1))
  go_ret
  exact ⟨rfl, gk_shut (Sp.sel (l2 := [blk g #[.slice A st.reverse.length cA, .int .i64 _, .bool vr, .bool false] 54, row kF 90 (.slice A st.reverse.length cA) st.reverse]) hS.lt [1, 2]) rfl rfl⟩
set_option maxHeartbeats 8000000 in
set_option maxRecDepth 100000 in
theorem look4 (g : Nat) (s : Gs) (kd at_ cl tag : Int) (cons : Bool) (ln b : Int) (h1 : ¬ kd = 1) (h2 : ¬ kd = 2) (h3 : ¬ kd = 3) (h5 : ¬ kd = 5) (w : World) (S : Nat → Prop) (h : Hs w S [gk g (some s)]) :
 Calls Try.prog 17 #[.pointer (some ⟨g, 0, none⟩), .agg #[.int .i64 kd, .int .i64 at_, .int .i64 cl, .int .i64 tag, .bool cons, .int .i64 ln, .int .u8 b]] w fun e w' => e = .returned (.int .i64 s.leaf) ∧ Sp w S [gk g (some s)] w' := by
 obtain ⟨A, cA, hS⟩ := gk_open h
 have hu := Try.underlying34
 have hu1 := Try.underlying32
 have hu2 := Try.underlying54
 have d1 : (kd == 1) = false := beq_eq_false_iff_ne.2 h1
 have d2 : (kd == 2) = false := beq_eq_false_iff_ne.2 h2
 have d3 : (kd == 3) = false := beq_eq_false_iff_ne.2 h3
 have d5 : (kd == 5) = false := beq_eq_false_iff_ne.2 h5
 obtain ⟨st, lf, vr⟩ := s
 show Calls _ _ _ _ fun e w' => e = .returned (.int .i64 lf) ∧ Sp w S [gk g (some ⟨st, lf, vr⟩)] w'
 have hS : Sp w S [blk g #[.slice A st.reverse.length cA, .int .i64 lf, .bool vr, .bool false] 54, row kF 90 (.slice A st.reverse.length cA) st.reverse] w := hS
 clear h h1 h2 h3 h5
 go_enter Try.func17, Try.ntmps17
 go_wp2_with (first
  | ((with_reducible refine gate_dst (N := 3) rfl ?_)
     refine sp_box hS rfl (N := 3) rfl _ 34 zz1 ?_
     intro ge w1 hge hS
     obtain ⟨e0, e1, e2, e3, e4, e5, e6⟩ := hS.cells7 0
     obtain ⟨k0, k1, k2, k3⟩ := hS.cells4 1))
 go_ret
 exact ⟨rfl, gk_shut (Sp.sel (l2 := [blk g #[.slice A st.reverse.length cA, .int .i64 lf, .bool vr, .bool false] 54, row kF 90 (.slice A st.reverse.length cA) st.reverse]) hS.lt [1, 2]) rfl rfl⟩
end Go.Proofs.Ytcfommconnlhgaa.Gm
namespace Go.Proofs.Ytcfommconnlhgaa.Gm
open RowKit PC YtcfommconnlhgaaW.PrintWords YtcfommconnlhgaaW.PrintLast YtcfommconnlhgaaW.PrintMore Own Sl
open Bs Vp
set_option linter.unusedVariables false
set_option linter.unusedSimpArgs false
set_option maxHeartbeats 8000000 in
set_option maxRecDepth 100000 in
theorem look5 (g : Nat) (tp tc : Int) (r0 : List (Int × Int)) (lf : Int) (vr : Bool) (hlen : r0.length ≤ 1000000000) (at_ cl tag : Int) (cons : Bool) (ln b : Int) (w : World) (S : Nat → Prop) (h : Hs w S [gk g (some ⟨(tp, tc) :: r0, lf, vr⟩)]) :
 Calls Try.prog 17 #[.pointer (some ⟨g, 0, none⟩), .agg #[.int .i64 5, .int .i64 at_, .int .i64 cl, .int .i64 tag, .bool cons, .int .i64 ln, .int .u8 b]] w fun e w' => e = .returned (.int .i64 (if (nextG tp tc).2 = true then tp else 0)) ∧ Sp w S [gk g (some ⟨r0, lf, vr⟩)] w' := by
 obtain ⟨A, cA, hS⟩ := gk_open h
 have hu := Try.underlying34
 have hu1 := Try.underlying32
 have hu2 := Try.underlying54
 have hu3 := Try.underlying90
 have HNX := Aside0.mk (fun W => next_any tp tc W)
 unfold RN at HNX
 obtain ⟨nb, hnb⟩ : ∃ nb, (nextG tp tc).2 = nb := ⟨_, rfl⟩
 rw [hnb] at HNX ⊢
 clear h hnb
 simp only [List.reverse_cons] at hS
 obtain ⟨L, hL⟩ : ∃ L, r0.reverse ++ [(tp, tc)] = L := ⟨_, rfl⟩
 have HL := Aside0.mk hL
 rw [hL] at hS
 obtain ⟨nn, hnn⟩ : ∃ nn, L.length = nn := ⟨_, rfl⟩
 have HNN := Aside0.mk hnn
 obtain ⟨mm, hmm⟩ : ∃ mm, r0.length = mm := ⟨_, rfl⟩
 have HMM := Aside0.mk hmm
 have hnm : nn = mm + 1 := by rw [← hnn, ← hL, ← hmm]; simp
 have hn1000 : (nn : Int) ≤ 1000000001 := by omega
 have hm0 : (0 : Int) ≤ (mm : Int) := by omega
 have hlt : (mm : Int) < (nn : Int) := by omega
 have hle : (mm : Int) ≤ (cA : Int) := by have h1 := (Kd.R_reads' (hS.row 1)).2.1; rw [hnn] at h1; omega
 have hwr : IntKind.i64.wrap ((nn : Int) - 1) = (mm : Int) := by rw [i64_w, Bs.w64 zz4 zz4]; omega
 have hwr2 : wrap64 ((nn : Int) - 1) = (mm : Int) := by rw [Bs.w64 zz4 zz4]; omega
 have HLT := Aside0.mk (show mm < nn by omega)
 rw [hnn] at hS
 obtain ⟨ad, rfl, hc0, hc1⟩ := at_F (hS.reads 1) mm zz4
 have hgl : L.getD mm (0, 0) = (tp, tc) := by rw [← hL, ← hmm, ← List.length_reverse]; exact get_last _ _ _
 rw [hgl] at hc0 hc1
 have HGL := Aside0.mk hgl
 clear hL hnn hmm hgl hnm hlen
 cases nb
 all_goals
  go_enter Try.func17, Try.ntmps17
  go_upto_region 13 with (first
   | ((with_reducible refine gate_dst (N := 3) rfl ?_)
      refine sp_box hS rfl (N := 3) rfl _ 34 zz1 ?_
      intro ge w1 hge hS
      obtain ⟨e0, e1, e2, e3, e4, e5, e6⟩ := hS.cells7 0
      obtain ⟨k0, k1, k2, k3⟩ := hS.cells4 1
      have kf := hS.fz 1
      clear hc0 hc1
      obtain ⟨ad2, had, hc0, hc1⟩ := at_F (hS.reads 2) mm HLT.out
      cases had
      rw [HGL.out] at hc0 hc1))
  have nw0 := World.new_ne w1 _ k0
  have nw1 := World.new_ne w1 _ hc0
  have nw2 := World.new_ne w1 _ hc1
  go_region_held3 (fun w' => w'.cell? ⟨g, 0, none⟩ = some (.slice (some ad) nn cA) ∧ w'.cell? (ad.add (mm * 2)) = some (.int .i64 tp) ∧ w'.cell? ⟨(ad.add (mm * 2)).block, (ad.add (mm * 2)).off + 1, none⟩ = some (.int .i64 tc)) (go_keep) (fail)
  replace hS := Sp.more hS (a := blk w1.heap.size #[.int .i64 tp, .int .i64 tc] 90) (Upd.alloc (Upd.refl _ _) _) ⟨Nat.le_refl _, blk_new w1 _⟩
  replace hS : Sp w S _ (w1.alloc (Obj.cells #[.int .i64 tp, .int .i64 tc] 90)).drew := hS.lt
  clear e0 e1 e2 e3 e4 e5 e6 k0 k1 k2 k3 kf hc0 hc1 nw0 nw1 nw2
  generalize w1.heap.size = g6 at hS ⊢
  generalize (w1.alloc (Obj.cells #[.int .i64 tp, .int .i64 tc] 90)).drew = w2 at hS ⊢
  obtain ⟨k0, k1, k2, k3⟩ := hS.cells4 2
  have kf := hS.fz 2
  go_upto_region 14 with (fail)
  go_region
  replace hS := hS.set_ 2 0 (.slice (some ad) mm cA)
  replace hS : Sp w S _ (w2.setCell ⟨g, 0, none⟩ (.slice (some ad) mm cA)).drew := hS.lt
  clear k0 k1 k2 k3 kf
  generalize (w2.setCell ⟨g, 0, none⟩ (.slice (some ad) mm cA)).drew = w3 at hS ⊢
  replace hS := Sp.turn hS 3 (row kF 90 (.slice (some ad) nn cA) L) (row kF 90 (.slice (some ad) mm cA) (L.take mm)) rfl (fun T hT => Kd.R_take hT (by rw [HNN.out]; exact Nat.le_of_lt HLT.out))
  replace hS := Sp.sel (l2 := [blk g6 #[.int .i64 tp, .int .i64 tc] 90, blk g #[.slice (some ad) mm cA, .int .i64 lf, .bool vr, .bool false] 54, row kF 90 (.slice (some ad) mm cA) (L.take mm)]) hS [0, 2, 3]
  obtain ⟨k0, k1⟩ := hS.cells2 0
  go_wp2_with (first
   | (go_at_call 32
      (with_reducible refine (HNX.out _).mono ?_)
      rintro e w4 ⟨A2, c2, rfl, hq⟩
      replace hS := hS.post0 (hq.mo (fun _ h => h.elim))
      clear k0 k1
      obtain ⟨k0, k1⟩ := hS.cells2 1))
  go_ret
  have htk : L.take mm = r0.reverse := by rw [← HL.out, ← HMM.out, ← List.length_reverse, List.take_left']; rfl
  rw [htk] at hS
  exact ⟨rfl, gk_shut (Sp.sel (l2 := [blk g #[.slice (some ad) mm cA, .int .i64 lf, .bool vr, .bool false] 54, row kF 90 (.slice (some ad) mm cA) r0.reverse]) hS.lt [2, 3]) (by rw [List.length_reverse]; exact HMM.out.symm) rfl⟩
end Go.Proofs.Ytcfommconnlhgaa.Gm
namespace Go.Proofs.Ytcfommconnlhgaa.Gm
open RowKit PC YtcfommconnlhgaaW.PrintWords YtcfommconnlhgaaW.PrintLast YtcfommconnlhgaaW.PrintMore Own Sl
open Bs Vp
set_option linter.unusedVariables false
set_option linter.unusedSimpArgs false
theorem look_any (g : Nat) (s : Gs) (d : Nat) (z : Bool) (e : Ev) (hg : Okg s d) (hd : d ≤ 900000000) (ho : okD d z e) (w : World) (S : Nat → Prop) (h : Hs w S [gk g (some s)]) :
 Calls Try.prog 17 #[.pointer (some ⟨g, 0, none⟩), .agg #[.int .i64 e.f0, .int .i64 e.f1, .int .i64 e.f2.f0, .int .i64 e.f2.f1, .bool e.f2.f2, .int .i64 e.f2.f3, .int .u8 e.f3]] w fun e' w' => e' = .returned (.int .i64 (lookG s e).2) ∧ Sp w S [gk g (some (lookG s e).1)] w' := by
 obtain ⟨kd, at_, ⟨cl, tag, cons, ln⟩, b⟩ := e
 unfold lookG
 by_cases h1 : kd = 1
 ·
  subst h1
  exact look1 g s d hg hd at_ cl tag cons ln b w S h
 by_cases h2 : kd = 2
 ·
  subst h2
  exact look2 g s d hg hd at_ cl tag cons ln b w S h
 by_cases h3 : kd = 3
 ·
  subst h3
  exact look3 g s at_ cl tag cons ln b w S h
 by_cases h5 : kd = 5
 ·
  subst h5
  have h0 := ho.2.2.1 rfl
  obtain ⟨st, lf, vr⟩ := s
  cases st with
  | nil => have := hg.len; simp at this; omega
  | cons q r0 =>
    have hl := hg.len
    simp only [List.length_cons] at hl
    exact look5 g q.1 q.2 r0 lf vr zz4 at_ cl tag cons ln b w S h
 ·
  have e1 : (if (kd : Int) = 1 then ((⟨(headG s.ver (topG s.st) ⟨cl, tag, cons, ln⟩, 0) :: setG s.st (headG s.ver (topG s.st) ⟨cl, tag, cons, ln⟩), s.leaf, s.ver⟩ : Gs), headG s.ver (topG s.st) ⟨cl, tag, cons, ln⟩)
   else if kd = 2 then (⟨setG s.st (headG s.ver (topG s.st) ⟨cl, tag, cons, ln⟩), headG s.ver (topG s.st) ⟨cl, tag, cons, ln⟩, s.ver || (headG s.ver (topG s.st) ⟨cl, tag, cons, ln⟩ == 3)⟩, headG s.ver (topG s.st) ⟨cl, tag, cons, ln⟩)
   else if kd = 3 then (s, if (s.leaf = 3 ∧ b ≠ 1) ∨ (s.leaf = 19 ∧ b ≠ 255) then 0 else s.leaf)
   else if kd = 5 then (⟨s.st.tail, s.leaf, s.ver⟩, if (nextG (topG s.st).1 (topG s.st).2).2 = true then (topG s.st).1 else 0)
   else (s, s.leaf)) = (s, s.leaf) := by rw [if_neg h1, if_neg h2, if_neg h3, if_neg h5]
  show Calls _ _ _ _ fun e' w' => e' = .returned (.int .i64 (ite _ _ _ : Gs × Int).2) ∧ Sp w S [gk g (some (ite _ _ _ : Gs × Int).1)] w'
  rw [e1]
  exact look4 g s kd at_ cl tag cons ln b h1 h2 h3 h5 w S h
def nextS (s : Gs) (e : Ev) : Option Gs := if (lookG s e).2 = 0 then none else some (lookG s e).1
theorem gk_none {w0 w : World} {S : Nat → Prop} {g : Nat} {v : Value} {lf : Int} {vr : Bool} (h : Sp w0 S [blk g #[v, .int .i64 lf, .bool vr, .bool true] 54] w) : Sp w0 S [gk g none] w := Sp.exI (v, lf, vr) (Sp.fold [_] h)
set_option maxHeartbeats 4000000 in
set_option maxRecDepth 100000 in
theorem gpush_ev (g : Nat) (s : Gs) (d : Nat) (z : Bool) (e : Ev) (hg : Okg s d) (hd : d ≤ 900000000) (ho : okD d z e) (w : World) (S : Nat → Prop) (h : Hs w S [gk g (some s)]) :
 Calls Try.prog 10 #[.pointer (some ⟨g, 0, none⟩), .agg #[.int .i64 e.f0, .int .i64 e.f1, .int .i64 e.f2.f0, .int .i64 e.f2.f1, .bool e.f2.f2, .int .i64 e.f2.f3, .int .u8 e.f3]] w fun e' w' => e' = .returned (.tuple #[.int .i64 (lookG s e).2, .int .i64 (if (lookG s e).2 = 0 then 8 else 0)]) ∧ Sp w S [gk g (nextS s e)] w' := by
 have hu := Try.underlying34
 have hu2 := Try.underlying54
 have HL := Aside0.mk (fun W S' h => look_any g s d z e hg hd ho W S' h)
 unfold nextS
 obtain ⟨⟨s2, p⟩, hs2⟩ : ∃ q, lookG s e = q := ⟨_, rfl⟩
 rw [hs2] at HL ⊢
 simp only at HL ⊢
 obtain ⟨⟨kd, at_, ⟨cl, tag, cons, n⟩, b⟩, he⟩ : ∃ q, e = q := ⟨_, rfl⟩
 rw [he] at HL ⊢
 simp only at HL ⊢
 obtain ⟨A, cA, hS⟩ := gk_open h
 obtain ⟨st, lf, vr⟩ := s
 have KC : ∀ {w' : World} {T : Nat → Prop} {l : List Ast}, Sp w T (blk g #[.slice A st.reverse.length cA, .int .i64 lf, .bool vr, .bool false] 54 :: row kF 90 (.slice A st.reverse.length cA) st.reverse :: l) w' → Sp w T (gk g (some ⟨st, lf, vr⟩) :: l) w' := fun h => Sp.exI (A, cA) (Sp.fold [_, _] h)
 have hS : Sp w S [blk g #[.slice A st.reverse.length cA, .int .i64 lf, .bool vr, .bool false] 54, row kF 90 (.slice A st.reverse.length cA) st.reverse] w := hS
 clear h hg hd ho hs2 he
 cases hp : (p == 0)
 all_goals
  have hp2 := hp
  simp only [beq_iff_eq, beq_eq_false_iff_ne, ne_eq] at hp2
  first | rw [if_pos hp2, if_pos hp2] | rw [if_neg hp2, if_neg hp2]
  clear hp2
  go_enter Try.func10, Try.ntmps10
  go_upto_if 10 with (first
   | ((with_reducible refine gate_dst (N := 3) rfl ?_)
      refine sp_box hS rfl (N := 3) rfl _ 34 zz1 ?_
      intro ge w1 hge hS
      obtain ⟨k0, k1, k2, k3⟩ := hS.cells4 1
      obtain ⟨e0, e1, e2, e3, e4, e5, e6⟩ := hS.cells7 0))
  replace hS := KC (Sp.sel (l2 := [blk g #[.slice A st.reverse.length cA, .int .i64 lf, .bool vr, .bool false] 54, row kF 90 (.slice A st.reverse.length cA) st.reverse]) hS [1, 2])
  go_wp2_with (first
   | (go_at_call 17
      (with_reducible refine (HL.out _ (hS.ft 1) zz28).mono ?_)
      rintro e w3 ⟨rfl, hq⟩
      replace hS := hS.post1 hq
      obtain ⟨q, hS⟩ := Sp.ex0 hS
      obtain ⟨A2, c2⟩ := q
      replace hS := hS.flat
      clear e0 e1 e2 e3 e4 e5 e6 k0 k1 k2 k3
      obtain ⟨k0, k1, k2, k3⟩ := hS.cells4 0
      have kf := hS.fz 0))
  go_ret2
 ·
  exact ⟨rfl, gk_shut (Sp.sel (l2 := [blk g #[.slice A2 s2.st.reverse.length c2, .int .i64 s2.leaf, .bool s2.ver, .bool false] 54, row kF 90 (.slice A2 s2.st.reverse.length c2) s2.st.reverse]) hS.lt [0, 1]) rfl rfl⟩
 ·
  obtain rfl : p = 0 := beq_iff_eq.1 hp
  exact ⟨rfl, gk_none (Sp.sel (l2 := [blk g #[.slice A2 s2.st.reverse.length c2, .int .i64 s2.leaf, .bool s2.ver, .bool true] 54]) ((hS.set_ 0 3 _).lt) [0])⟩
set_option maxHeartbeats 4000000 in
set_option maxRecDepth 100000 in
theorem gnew_any (w : World) : Calls Try.prog 6 #[] w fun e w' => ∃ g : Nat, e = .returned (.pointer (some ⟨g, 0, none⟩)) ∧ Sp w None0 [gk g (some g0)] w' := by
 have hS := Sp.nil (w := w) (S := None0)
 have hu := Try.underlying54
 go_enter Try.func6, Try.ntmps6
 go_wp2_with (first
  | ((with_reducible refine gate_dst (N := 2) rfl ?_)
     refine sp_box hS rfl (N := 2) rfl #[.slice none 0 0, .int .i64 0, .bool false, .bool false] 54 zz1 ?_
     intro g w1 hg hS))
 go_ret
 exact ⟨g, rfl, gk_shut (st := []) (A := none) (c := 0) (n := 0) (xs := []) (((Sp.lt hS).nilrow kF 90).swap) rfl rfl⟩
end Go.Proofs.Ytcfommconnlhgaa.Gm
namespace Go.Proofs.Ytcfommconnlhgaa.BDat
open RowKit PC YtcfommconnlhgaaW.PrintWords YtcfommconnlhgaaW.PrintLast YtcfommconnlhgaaW.PrintMore
open Bs
open Dt
set_option linter.unusedVariables false
def tagOf (u : Bool) : Int := if u = true then 23 else 24
theorem start_yes (u : Bool) : when_Start.f (tagOf u) (lenOf u) = some ((⟨#[]⟩ : ByteArray), lenOf u, u, true) := by
 cases u <;> rfl
theorem start_no (tag n : Int) (h : ∀ u, ¬ (tag = tagOf u ∧ n = lenOf u)) : when_Start.f tag n = some ((⟨#[]⟩ : ByteArray), 0, false, false) := by
 have h1 : ¬ (tag = 23 ∧ n = 13) := h true
 have h2 : ¬ (tag = 24 ∧ n = 15) := h false
 unfold when_Start.f
 by_cases a : tag = 23
 ·
  rw [if_pos a, if_neg (fun b => h1 ⟨a, b⟩)]
 rw [if_neg a]
 by_cases c : tag = 24
 ·
  rw [if_pos c, if_neg (fun b => h2 ⟨c, b⟩)]
 ·
  rw [if_neg c]
end Go.Proofs.Ytcfommconnlhgaa.BDat

namespace Go.Proofs.Ytcfommconnlhgaa.Vp
open RowKit PC YtcfommconnlhgaaW.PrintWords YtcfommconnlhgaaW.PrintLast YtcfommconnlhgaaW.PrintMore Own Sl
open Bs
open BNum (okN okP)
set_option linter.unusedVariables false
set_option linter.unusedSimpArgs false
def cellsnum : Option Cs → Array Value
 | some (.num t n a f) => #[.int .i64 t, .int .i64 n, .int .i64 a, .int .u8 f]
 | _ => #[.int .i64 0, .int .i64 0, .int .i64 0, .int .u8 0]
def cellsoid : Option Cs → Array Value
 | some (.oid l wi) => #[.int .i64 l, .bool wi]
 | _ => #[.int .i64 0, .bool false]
def cellsbit : Option Cs → Array Value
 | some (.bit l bg u) => #[.int .i64 l, .bool bg, .int .u8 u]
 | _ => #[.int .i64 0, .bool false, .int .u8 0]
def cellswhn : Option Cs → Array Value
 | some (.whn u D l) => #[.string (strOfNums D), .int .i64 l, .bool u]
 | _ => #[.string ⟨#[]⟩, .int .i64 0, .bool false]
def cellstxt : Option Cs → Array Value
 | some (.txt t l m lo hi) => #[.int .i64 t, .int .i64 l, .int .i64 m, .int .u8 lo, .int .u8 hi]
 | _ => #[.int .i64 0, .int .i64 0, .int .i64 0, .int .u8 0, .int .u8 0]
theorem push_num (t n a f : Int) (b r : Int) (hg : Good (.num t n a f) r) (hr : 0 < r) (hb : 0 ≤ b ∧ b < 256) (w : World) :
 Calls Try.prog 114 #[.agg #[.int .i64 t, .int .i64 n, .int .i64 a, .int .u8 f], .int .u8 b] w fun e w' => e = .returned (.tuple #[.agg (cellsnum (pushC (.num t n a f) b)), .bool (pushC (.num t n a f) b).isSome]) ∧ Upd None0 w w' := by
 obtain ⟨g1, g2, g3⟩ := hg
 have hp := BNum.push_eq 0 t n a f b g1 zz4
 simp only [pushC]
 by_cases h : okP t a f b = true
 ·
  rw [if_pos h] at hp ⊢
  exact (number_State_Push.calls 1 t n a f b _ _ _ _ _ w hp).mono fun e w' ⟨he, hw⟩ => ⟨he, Upd.of_below hw⟩
 ·
  rw [if_neg h] at hp ⊢
  exact (number_State_Push.calls 1 t n a f b _ _ _ _ _ w hp).mono fun e w' ⟨he, hw⟩ => ⟨he, Upd.of_below hw⟩
theorem push_oid (l : Int) (wi : Bool) (b r : Int) (hg : Good (.oid l wi) r) (hr : 0 < r) (hb : 0 ≤ b ∧ b < 256) (w : World) :
 Calls Try.prog 115 #[.agg #[.int .i64 l, .bool wi], .int .u8 b] w fun e w' => e = .returned (.tuple #[.agg (cellsoid (pushC (.oid l wi) b)), .bool (pushC (.oid l wi) b).isSome]) ∧ Upd None0 w w' := by
 obtain ⟨g1, g2, g3⟩ := hg
 have hw : wrap64 (l - 1) = l - 1 := w64 zz4 zz4
 simp only [pushC]
 have hp : oid_State_Push.f l wi b = some (if (wi = false ∧ b = 128) ∨ (l - 1 = 0 ∧ 128 ≤ b) then (0, false, false) else (l - 1, decide (128 ≤ b), true)) := by
  unfold oid_State_Push.f
  rw [hw]
  cases wi <;> by_cases h1 : l - 1 = 0 <;> by_cases h2 : b ≥ 128 <;> by_cases h3 : b = 128 <;> simp [h1, h2, h3] <;> omega
 by_cases h : (wi = false ∧ b = 128) ∨ (l - 1 = 0 ∧ 128 ≤ b)
 ·
  rw [if_pos h] at hp ⊢
  exact (oid_State_Push.calls l wi b _ _ _ w hp).mono fun e w' ⟨he, hw⟩ => ⟨he, Upd.of_below hw⟩
 ·
  rw [if_neg h] at hp ⊢
  exact (oid_State_Push.calls l wi b _ _ _ w hp).mono fun e w' ⟨he, hw⟩ => ⟨he, Upd.of_below hw⟩
theorem push_bit (l : Int) (bg : Bool) (u : Int) (b r : Int) (hg : Good (.bit l bg u) r) (hr : 0 < r) (hb : 0 ≤ b ∧ b < 256) (w : World) :
 Calls Try.prog 116 #[.agg #[.int .i64 l, .bool bg, .int .u8 u], .int .u8 b] w fun e w' => e = .returned (.tuple #[.agg (cellsbit (pushC (.bit l bg u) b)), .bool (pushC (.bit l bg u) b).isSome]) ∧ Upd None0 w w' := by
 obtain ⟨g1, g2, g3, g4, g5⟩ := hg
 have hw : wrap64 (l - 1) = l - 1 := w64 zz4 zz4
 simp only [pushC]
 cases bg with
 | true =>
   rw [if_pos rfl]
   have hp : bitstr_State_Push.f l true u b = some (if l - 1 = 0 ∧ bitBad u b = true then (0, false, 0, false) else (l - 1, true, u, true)) := by
    unfold bitstr_State_Push.f bitBad
    rw [hw, if_pos rfl, if_pos g4]
    by_cases h1 : l - 1 = 0
    ·
     rw [if_pos h1]
     by_cases h2 : Go.bits .and .u8 b ((shl .u8 1 u - 1) % 256) = 0
     ·
      rw [if_pos h2, if_neg (by simp [h2])]
     ·
      rw [if_neg h2, if_pos ⟨h1, by simp [h2]⟩]
    ·
     rw [if_neg h1, if_neg (fun h => h1 h.1)]
   by_cases h : l - 1 = 0 ∧ bitBad u b = true
   ·
    rw [if_pos h] at hp ⊢
    exact (bitstr_State_Push.calls l true u b _ _ _ _ w hp).mono fun e w' ⟨he, hw⟩ => ⟨he, Upd.of_below hw⟩
   ·
    rw [if_neg h] at hp ⊢
    exact (bitstr_State_Push.calls l true u b _ _ _ _ w hp).mono fun e w' ⟨he, hw⟩ => ⟨he, Upd.of_below hw⟩
 | false =>
   rw [if_neg zz8]
   have hp : bitstr_State_Push.f l false u b = some (if 7 < b ∨ (0 < b ∧ l - 1 = 0) then (0, false, 0, false) else (l - 1, true, b, true)) := by
    unfold bitstr_State_Push.f
    rw [hw, if_neg zz8]
    by_cases h1 : b > 7
    ·
     rw [if_pos h1, if_pos (.inl h1)]
    ·
     rw [if_neg h1]
     by_cases h2 : b > 0
     ·
      rw [if_pos h2]
      by_cases h3 : l - 1 = 0
      ·
       rw [if_pos h3, if_pos (.inr ⟨h2, h3⟩)]
      ·
       rw [if_neg h3, if_neg zz4]
     ·
      rw [if_neg h2, if_neg zz4]
   by_cases h : 7 < b ∨ (0 < b ∧ l - 1 = 0)
   ·
    rw [if_pos h] at hp ⊢
    exact (bitstr_State_Push.calls l false u b _ _ _ _ w hp).mono fun e w' ⟨he, hw⟩ => ⟨he, Upd.of_below hw⟩
   ·
    rw [if_neg h] at hp ⊢
    exact (bitstr_State_Push.calls l false u b _ _ _ _ w hp).mono fun e w' ⟨he, hw⟩ => ⟨he, Upd.of_below hw⟩
theorem push_whn (u : Bool) (D : List Int) (l : Int) (b r : Int) (hg : Good (.whn u D l) r) (hr : 0 < r) (hb : 0 ≤ b ∧ b < 256) (w : World) :
 Calls Try.prog 117 #[.agg #[.string (strOfNums D), .int .i64 l, .bool u], .int .u8 b] w fun e w' => e = .returned (.tuple #[.agg (cellswhn (pushC (.whn u D l) b)), .bool (pushC (.whn u D l) b).isSome]) ∧ Upd None0 w w' := by
 obtain ⟨g1, g2, g3, g4, g5⟩ := hg
 have hp := BDat.push_eq 0 u D l b g3 (fun h => by omega) ⟨zz4, zz4⟩
 simp only [pushC]
 cases hs : Dt.stp u (D, l) b with
 | none => rw [hs] at hp; exact (when_State_Push.calls 14 _ l u b _ _ _ _ w hp).mono fun e w' ⟨he, hw⟩ => ⟨he, Upd.of_below hw⟩
 | some s => rw [hs] at hp; exact (when_State_Push.calls 14 _ l u b _ _ _ _ w hp).mono fun e w' ⟨he, hw⟩ => ⟨he, Upd.of_below hw⟩
theorem push_txt (t l m lo hi : Int) (b r : Int) (hg : Good (.txt t l m lo hi) r) (hr : 0 < r) (hb : 0 ≤ b ∧ b < 256) (w : World) :
 Calls Try.prog 123 #[.agg #[.int .i64 t, .int .i64 l, .int .i64 m, .int .u8 lo, .int .u8 hi], .int .u8 b] w fun e w' => e = .returned (.tuple #[.agg (cellstxt (pushC (.txt t l m lo hi) b)), .bool (pushC (.txt t l m lo hi) b).isSome]) ∧ Upd None0 w w' := by
 obtain ⟨g1, g2, g3, g4, g5⟩ := hg
 have hp := BTxt.push_eq 0 t (l, m, lo, hi) b ⟨by show _ < l; omega, by show l ≤ _; omega, g4, g5⟩ hb.1 hb.2
 simp only [pushC]
 cases hs : Tx.stp t (l, m, lo, hi) b with
 | none => rw [hs] at hp; exact (text_State_Push.calls 2 t l m lo hi b _ _ _ _ _ _ w hp).mono fun e w' ⟨he, hw⟩ => ⟨he, Upd.of_below hw⟩
 | some s => rw [hs] at hp; exact (text_State_Push.calls 2 t l m lo hi b _ _ _ _ _ _ w hp).mono fun e w' ⟨he, hw⟩ => ⟨he, Upd.of_below hw⟩
def nx : Option Cs → Value → Ast
 | none, v => pu (v = .nilFunc)
 | some .any, v => pu (v = .func (.func 42) #[] #[])
 | some (.num t n a f), v => ex fun g : Nat => sep [pu (v = .func (.func 89) #[] #[.pointer (some ⟨g, 0, none⟩)]), blk g #[.int .i64 t, .int .i64 n, .int .i64 a, .int .u8 f] 151]
 | some (.oid l wi), v => ex fun g : Nat => sep [pu (v = .func (.func 90) #[] #[.pointer (some ⟨g, 0, none⟩)]), blk g #[.int .i64 l, .bool wi] 156]
 | some (.bit l bg u), v => ex fun g : Nat => sep [pu (v = .func (.func 91) #[] #[.pointer (some ⟨g, 0, none⟩)]), blk g #[.int .i64 l, .bool bg, .int .u8 u] 161]
 | some (.whn u D l), v => ex fun g : Nat => sep [pu (v = .func (.func 92) #[] #[.pointer (some ⟨g, 0, none⟩)]), blk g #[.string (strOfNums D), .int .i64 l, .bool u] 166]
 | some (.txt t l m lo hi), v => ex fun g : Nat => sep [pu (v = .func (.func 93) #[] #[.pointer (some ⟨g, 0, none⟩)]), blk g #[.int .i64 t, .int .i64 l, .int .i64 m, .int .u8 lo, .int .u8 hi] 171]
theorem mf (fn : Fn) (first cap : Array Value) (w : World) : (Instr.makeFunc fn first cap).run Try.prog w = .ok (.func fn first cap) w := rfl
theorem nx_none {w0 w : World} {S : Nat → Prop} {l : List Ast} (h : Sp w0 S l w) : Sp w0 S (nx none .nilFunc :: l) w := h.more (Upd.refl _ _) rfl
set_option maxHeartbeats 4000000 in
set_option maxRecDepth 100000 in
theorem wrap_num (s : Option Cs) (hs : s = none ∨ ∃ t n a f, s = some (.num t n a f)) (w : World) :
 Calls Try.prog 74 #[.agg (cellsnum s), .bool s.isSome] w fun e w' => ∃ v, e = .returned (.tuple #[v, .bool s.isSome]) ∧ Sp w None0 [nx s v] w' := by
 have hS := Sp.nil (w := w) (S := None0)
 have hu := Try.underlying151
 have hmf := mf
 rcases hs with rfl | ⟨t, n, a, f, rfl⟩
 ·
  show Calls Try.prog 74 #[.agg #[.int .i64 0, .int .i64 0, .int .i64 0, .int .u8 0], .bool false] w _
  go_enter Try.func74, Try.ntmps74
  go_wp2_with (first
   | ((with_reducible refine gate_dst (N := 2) rfl ?_)
      refine sp_box hS rfl (N := 2) rfl #[.int .i64 0, .int .i64 0, .int .i64 0, .int .u8 0] 151 zz1 ?_
      intro g w1 hg hS))
  go_ret2
  exact ⟨_, rfl, Sp.sel (l2 := [nx none _]) (nx_none zz25) [0]⟩
 ·
  show Calls Try.prog 74 #[.agg #[.int .i64 t, .int .i64 n, .int .i64 a, .int .u8 f], .bool true] w _
  go_enter Try.func74, Try.ntmps74
  go_wp2_with (first
   | ((with_reducible refine gate_dst (N := 2) rfl ?_)
      refine sp_box hS rfl (N := 2) rfl #[.int .i64 t, .int .i64 n, .int .i64 a, .int .u8 f] 151 zz1 ?_
      intro g w1 hg hS))
  go_ret2
  exact ⟨_, rfl, Sp.exI g (Sp.fold [_, _] ((hS.lt (W := _)).more (a := pu _) (Upd.refl _ _) rfl))⟩
set_option maxHeartbeats 4000000 in
set_option maxRecDepth 100000 in
theorem wrap_oid (s : Option Cs) (hs : s = none ∨ ∃ l wi, s = some (.oid l wi)) (w : World) :
 Calls Try.prog 76 #[.agg (cellsoid s), .bool s.isSome] w fun e w' => ∃ v, e = .returned (.tuple #[v, .bool s.isSome]) ∧ Sp w None0 [nx s v] w' := by
 have hS := Sp.nil (w := w) (S := None0)
 have hu := Try.underlying156
 have hmf := mf
 rcases hs with rfl | ⟨l, wi, rfl⟩
 ·
  show Calls Try.prog 76 #[.agg #[.int .i64 0, .bool false], .bool false] w _
  go_enter Try.func76, Try.ntmps76
  go_wp2_with (first
   | ((with_reducible refine gate_dst (N := 2) rfl ?_)
      refine sp_box hS rfl (N := 2) rfl #[.int .i64 0, .bool false] 156 zz1 ?_
      intro g w1 hg hS))
  go_ret2
  exact ⟨_, rfl, Sp.sel (l2 := [nx none _]) (nx_none zz25) [0]⟩
 ·
  show Calls Try.prog 76 #[.agg #[.int .i64 l, .bool wi], .bool true] w _
  go_enter Try.func76, Try.ntmps76
  go_wp2_with (first
   | ((with_reducible refine gate_dst (N := 2) rfl ?_)
      refine sp_box hS rfl (N := 2) rfl #[.int .i64 l, .bool wi] 156 zz1 ?_
      intro g w1 hg hS))
  go_ret2
  exact ⟨_, rfl, Sp.exI g (Sp.fold [_, _] ((hS.lt (W := _)).more (a := pu _) (Upd.refl _ _) rfl))⟩
set_option maxHeartbeats 4000000 in
set_option maxRecDepth 100000 in
theorem wrap_bit (s : Option Cs) (hs : s = none ∨ ∃ l bg u, s = some (.bit l bg u)) (w : World) :
 Calls Try.prog 78 #[.agg (cellsbit s), .bool s.isSome] w fun e w' => ∃ v, e = .returned (.tuple #[v, .bool s.isSome]) ∧ Sp w None0 [nx s v] w' := by
 have hS := Sp.nil (w := w) (S := None0)
 have hu := Try.underlying161
 have hmf := mf
 rcases hs with rfl | ⟨l, bg, u, rfl⟩
 ·
  show Calls Try.prog 78 #[.agg #[.int .i64 0, .bool false, .int .u8 0], .bool false] w _
  go_enter Try.func78, Try.ntmps78
  go_wp2_with (first
   | ((with_reducible refine gate_dst (N := 2) rfl ?_)
      refine sp_box hS rfl (N := 2) rfl #[.int .i64 0, .bool false, .int .u8 0] 161 zz1 ?_
      intro g w1 hg hS))
  go_ret2
  exact ⟨_, rfl, Sp.sel (l2 := [nx none _]) (nx_none zz25) [0]⟩
 ·
  show Calls Try.prog 78 #[.agg #[.int .i64 l, .bool bg, .int .u8 u], .bool true] w _
  go_enter Try.func78, Try.ntmps78
  go_wp2_with (first
   | ((with_reducible refine gate_dst (N := 2) rfl ?_)
      refine sp_box hS rfl (N := 2) rfl #[.int .i64 l, .bool bg, .int .u8 u] 161 zz1 ?_
      intro g w1 hg hS))
  go_ret2
  exact ⟨_, rfl, Sp.exI g (Sp.fold [_, _] ((hS.lt (W := _)).more (a := pu _) (Upd.refl _ _) rfl))⟩
set_option maxHeartbeats 4000000 in
set_option maxRecDepth 100000 in
theorem wrap_whn (s : Option Cs) (hs : s = none ∨ ∃ u D l, s = some (.whn u D l)) (w : World) :
 Calls Try.prog 80 #[.agg (cellswhn s), .bool s.isSome] w fun e w' => ∃ v, e = .returned (.tuple #[v, .bool s.isSome]) ∧ Sp w None0 [nx s v] w' := by
 have hS := Sp.nil (w := w) (S := None0)
 have hu := Try.underlying166
 have hmf := mf
 rcases hs with rfl | ⟨u, D, l, rfl⟩
 ·
  show Calls Try.prog 80 #[.agg #[.string ⟨#[]⟩, .int .i64 0, .bool false], .bool false] w _
  go_enter Try.func80, Try.ntmps80
  go_wp2_with (first
   | ((with_reducible refine gate_dst (N := 2) rfl ?_)
      refine sp_box hS rfl (N := 2) rfl #[.string ⟨#[]⟩, .int .i64 0, .bool false] 166 zz1 ?_
      intro g w1 hg hS))
  go_ret2
  exact ⟨_, rfl, Sp.sel (l2 := [nx none _]) (nx_none zz25) [0]⟩
 ·
  show Calls Try.prog 80 #[.agg #[.string (strOfNums D), .int .i64 l, .bool u], .bool true] w _
  go_enter Try.func80, Try.ntmps80
  go_wp2_with (first
   | ((with_reducible refine gate_dst (N := 2) rfl ?_)
      refine sp_box hS rfl (N := 2) rfl #[.string (strOfNums D), .int .i64 l, .bool u] 166 zz1 ?_
      intro g w1 hg hS))
  go_ret2
  exact ⟨_, rfl, Sp.exI g (Sp.fold [_, _] ((hS.lt (W := _)).more (a := pu _) (Upd.refl _ _) rfl))⟩
set_option maxHeartbeats 4000000 in
set_option maxRecDepth 100000 in
theorem wrap_txt (s : Option Cs) (hs : s = none ∨ ∃ t l m lo hi, s = some (.txt t l m lo hi)) (w : World) :
 Calls Try.prog 82 #[.agg (cellstxt s), .bool s.isSome] w fun e w' => ∃ v, e = .returned (.tuple #[v, .bool s.isSome]) ∧ Sp w None0 [nx s v] w' := by
 have hS := Sp.nil (w := w) (S := None0)
 have hu := Try.underlying171
 have hmf := mf
 rcases hs with rfl | ⟨t, l, m, lo, hi, rfl⟩
 ·
  show Calls Try.prog 82 #[.agg #[.int .i64 0, .int .i64 0, .int .i64 0, .int .u8 0, .int .u8 0], .bool false] w _
  go_enter Try.func82, Try.ntmps82
  go_wp2_with (first
   | ((with_reducible refine gate_dst (N := 2) rfl ?_)
      refine sp_box hS rfl (N := 2) rfl #[.int .i64 0, .int .i64 0, .int .i64 0, .int .u8 0, .int .u8 0] 171 zz1 ?_
      intro g w1 hg hS))
  go_ret2
  exact ⟨_, rfl, Sp.sel (l2 := [nx none _]) (nx_none zz25) [0]⟩
 ·
  show Calls Try.prog 82 #[.agg #[.int .i64 t, .int .i64 l, .int .i64 m, .int .u8 lo, .int .u8 hi], .bool true] w _
  go_enter Try.func82, Try.ntmps82
  go_wp2_with (first
   | ((with_reducible refine gate_dst (N := 2) rfl ?_)
      refine sp_box hS rfl (N := 2) rfl #[.int .i64 t, .int .i64 l, .int .i64 m, .int .u8 lo, .int .u8 hi] 171 zz1 ?_
      intro g w1 hg hS))
  go_ret2
  exact ⟨_, rfl, Sp.exI g (Sp.fold [_, _] ((hS.lt (W := _)).more (a := pu _) (Upd.refl _ _) rfl))⟩
theorem kind_num (t n a f : Int) (b : Int) : pushC (.num t n a f) b = none ∨ ∃ t' n' a' f', pushC (.num t n a f) b = some (.num t' n' a' f') := by simp only [pushC]; split; exact .inr ⟨_, _, _, _, rfl⟩; exact .inl rfl
set_option maxHeartbeats 4000000 in
set_option maxRecDepth 100000 in
theorem clo_num (t n a f : Int) (b r : Int) (hg : Good (.num t n a f) r) (hr : 0 < r) (hb : 0 ≤ b ∧ b < 256) (g : Nat) (w : World) (S : Nat → Prop) (h : Hs w S [blk g #[.int .i64 t, .int .i64 n, .int .i64 a, .int .u8 f] 151]) :
 Calls Try.prog 89 #[.int .u8 b, .pointer (some ⟨g, 0, none⟩)] w fun e w' => ∃ v, e = .returned (.tuple #[v, .bool (pushC (.num t n a f) b).isSome]) ∧ Sp w S [nx (pushC (.num t n a f) b) v] w' := by
 have hS := Sp.start h
 have hu := Try.underlying151
 have HP := Aside0.mk (fun W => push_num t n a f b r hg hr hb W)
 obtain ⟨s, hs⟩ : ∃ s, pushC (.num t n a f) b = s := ⟨_, rfl⟩
 rw [hs] at HP ⊢
 have HW := Aside0.mk (fun W => wrap_num s (by rw [← hs]; exact kind_num t n a f b) W)
 obtain ⟨ok, hok⟩ : ∃ ok, s.isSome = ok := ⟨_, rfl⟩
 obtain ⟨cs, hcs⟩ : ∃ cs, cellsnum s = cs := ⟨_, rfl⟩
 rw [hok] at HP HW ⊢
 rw [hcs] at HP HW
 have hm : ∀ W, Sem.run Try.prog (method 309 151 (.agg #[.int .i64 t, .int .i64 n, .int .i64 a, .int .u8 f]) "Push") W = .ok (114, .agg #[.int .i64 t, .int .i64 n, .int .i64 a, .int .u8 f]) W := fun _ => by kernel_rfl
 obtain ⟨k0, k1, k2, k3⟩ := hS.cells4 0
 clear h hg hr hs hok hcs
 go_enter Try.func89, Try.ntmps89
 go_wp2_with (first
  | (go_at_call 114
     (with_reducible refine (HP.out _).mono ?_)
     rintro e w2 ⟨rfl, hun⟩
     replace hS := hS.toN hun)
  | (go_at_call 74
     (with_reducible refine (HW.out _).mono ?_)
     rintro e w3 ⟨v, rfl, hq⟩
     replace hS := hS.post0 (hq.mo (fun _ h => h.elim))))
 go_ret2
 exact ⟨v, rfl, Sp.sel (l2 := [nx s v]) hS.lt [0]⟩
theorem kind_oid (l : Int) (wi : Bool) (b : Int) : pushC (.oid l wi) b = none ∨ ∃ l' wi', pushC (.oid l wi) b = some (.oid l' wi') := by simp only [pushC]; split; exact .inl rfl; exact .inr ⟨_, _, rfl⟩
set_option maxHeartbeats 4000000 in
set_option maxRecDepth 100000 in
theorem clo_oid (l : Int) (wi : Bool) (b r : Int) (hg : Good (.oid l wi) r) (hr : 0 < r) (hb : 0 ≤ b ∧ b < 256) (g : Nat) (w : World) (S : Nat → Prop) (h : Hs w S [blk g #[.int .i64 l, .bool wi] 156]) :
 Calls Try.prog 90 #[.int .u8 b, .pointer (some ⟨g, 0, none⟩)] w fun e w' => ∃ v, e = .returned (.tuple #[v, .bool (pushC (.oid l wi) b).isSome]) ∧ Sp w S [nx (pushC (.oid l wi) b) v] w' := by
 have hS := Sp.start h
 have hu := Try.underlying156
 have HP := Aside0.mk (fun W => push_oid l wi b r hg hr hb W)
 obtain ⟨s, hs⟩ : ∃ s, pushC (.oid l wi) b = s := ⟨_, rfl⟩
 rw [hs] at HP ⊢
 have HW := Aside0.mk (fun W => wrap_oid s (by rw [← hs]; exact kind_oid l wi b) W)
 obtain ⟨ok, hok⟩ : ∃ ok, s.isSome = ok := ⟨_, rfl⟩
 obtain ⟨cs, hcs⟩ : ∃ cs, cellsoid s = cs := ⟨_, rfl⟩
 rw [hok] at HP HW ⊢
 rw [hcs] at HP HW
 have hm : ∀ W, Sem.run Try.prog (method 309 156 (.agg #[.int .i64 l, .bool wi]) "Push") W = .ok (115, .agg #[.int .i64 l, .bool wi]) W := fun _ => by kernel_rfl
 obtain ⟨k0, k1⟩ := hS.cells2 0
 clear h hg hr hs hok hcs
 go_enter Try.func90, Try.ntmps90
 go_wp2_with (first
  | (go_at_call 115
     (with_reducible refine (HP.out _).mono ?_)
     rintro e w2 ⟨rfl, hun⟩
     replace hS := hS.toN hun)
  | (go_at_call 76
     (with_reducible refine (HW.out _).mono ?_)
     rintro e w3 ⟨v, rfl, hq⟩
     replace hS := hS.post0 (hq.mo (fun _ h => h.elim))))
 go_ret2
 exact ⟨v, rfl, Sp.sel (l2 := [nx s v]) hS.lt [0]⟩
theorem kind_bit (l : Int) (bg : Bool) (u : Int) (b : Int) : pushC (.bit l bg u) b = none ∨ ∃ l' bg' u', pushC (.bit l bg u) b = some (.bit l' bg' u') := by simp only [pushC]; split <;> split <;> first | exact .inl rfl | exact .inr ⟨_, _, _, rfl⟩
set_option maxHeartbeats 4000000 in
set_option maxRecDepth 100000 in
theorem clo_bit (l : Int) (bg : Bool) (u : Int) (b r : Int) (hg : Good (.bit l bg u) r) (hr : 0 < r) (hb : 0 ≤ b ∧ b < 256) (g : Nat) (w : World) (S : Nat → Prop) (h : Hs w S [blk g #[.int .i64 l, .bool bg, .int .u8 u] 161]) :
 Calls Try.prog 91 #[.int .u8 b, .pointer (some ⟨g, 0, none⟩)] w fun e w' => ∃ v, e = .returned (.tuple #[v, .bool (pushC (.bit l bg u) b).isSome]) ∧ Sp w S [nx (pushC (.bit l bg u) b) v] w' := by
 have hS := Sp.start h
 have hu := Try.underlying161
 have HP := Aside0.mk (fun W => push_bit l bg u b r hg hr hb W)
 obtain ⟨s, hs⟩ : ∃ s, pushC (.bit l bg u) b = s := ⟨_, rfl⟩
 rw [hs] at HP ⊢
 have HW := Aside0.mk (fun W => wrap_bit s (by rw [← hs]; exact kind_bit l bg u b) W)
 obtain ⟨ok, hok⟩ : ∃ ok, s.isSome = ok := ⟨_, rfl⟩
 obtain ⟨cs, hcs⟩ : ∃ cs, cellsbit s = cs := ⟨_, rfl⟩
 rw [hok] at HP HW ⊢
 rw [hcs] at HP HW
 have hm : ∀ W, Sem.run Try.prog (method 309 161 (.agg #[.int .i64 l, .bool bg, .int .u8 u]) "Push") W = .ok (116, .agg #[.int .i64 l, .bool bg, .int .u8 u]) W := fun _ => by kernel_rfl
 obtain ⟨k0, k1, k2⟩ := hS.cells3 0
 clear h hg hr hs hok hcs
 go_enter Try.func91, Try.ntmps91
 go_wp2_with (first
  | (go_at_call 116
     (with_reducible refine (HP.out _).mono ?_)
     rintro e w2 ⟨rfl, hun⟩
     replace hS := hS.toN hun)
  | (go_at_call 78
     (with_reducible refine (HW.out _).mono ?_)
     rintro e w3 ⟨v, rfl, hq⟩
     replace hS := hS.post0 (hq.mo (fun _ h => h.elim))))
 go_ret2
 exact ⟨v, rfl, Sp.sel (l2 := [nx s v]) hS.lt [0]⟩
theorem kind_whn (u : Bool) (D : List Int) (l : Int) (b : Int) : pushC (.whn u D l) b = none ∨ ∃ u' D' l', pushC (.whn u D l) b = some (.whn u' D' l') := by simp only [pushC]; cases Dt.stp u (D, l) b; exact .inl rfl; exact .inr ⟨_, _, _, rfl⟩
set_option maxHeartbeats 4000000 in
set_option maxRecDepth 100000 in
theorem clo_whn (u : Bool) (D : List Int) (l : Int) (b r : Int) (hg : Good (.whn u D l) r) (hr : 0 < r) (hb : 0 ≤ b ∧ b < 256) (g : Nat) (w : World) (S : Nat → Prop) (h : Hs w S [blk g #[.string (strOfNums D), .int .i64 l, .bool u] 166]) :
 Calls Try.prog 92 #[.int .u8 b, .pointer (some ⟨g, 0, none⟩)] w fun e w' => ∃ v, e = .returned (.tuple #[v, .bool (pushC (.whn u D l) b).isSome]) ∧ Sp w S [nx (pushC (.whn u D l) b) v] w' := by
 have hS := Sp.start h
 have hu := Try.underlying166
 have HP := Aside0.mk (fun W => push_whn u D l b r hg hr hb W)
 obtain ⟨s, hs⟩ : ∃ s, pushC (.whn u D l) b = s := ⟨_, rfl⟩
 rw [hs] at HP ⊢
 have HW := Aside0.mk (fun W => wrap_whn s (by rw [← hs]; exact kind_whn u D l b) W)
 obtain ⟨ok, hok⟩ : ∃ ok, s.isSome = ok := ⟨_, rfl⟩
 obtain ⟨cs, hcs⟩ : ∃ cs, cellswhn s = cs := ⟨_, rfl⟩
 rw [hok] at HP HW ⊢
 rw [hcs] at HP HW
 have hm : ∀ W, Sem.run Try.prog (method 309 166 (.agg #[.string (strOfNums D), .int .i64 l, .bool u]) "Push") W = .ok (117, .agg #[.string (strOfNums D), .int .i64 l, .bool u]) W := fun _ => by kernel_rfl
 obtain ⟨k0, k1, k2⟩ := hS.cells3 0
 clear h hg hr hs hok hcs
 go_enter Try.func92, Try.ntmps92
 go_wp2_with (first
  | (go_at_call 117
     (with_reducible refine (HP.out _).mono ?_)
     rintro e w2 ⟨rfl, hun⟩
     replace hS := hS.toN hun)
  | (go_at_call 80
     (with_reducible refine (HW.out _).mono ?_)
     rintro e w3 ⟨v, rfl, hq⟩
     replace hS := hS.post0 (hq.mo (fun _ h => h.elim))))
 go_ret2
 exact ⟨v, rfl, Sp.sel (l2 := [nx s v]) hS.lt [0]⟩
theorem kind_txt (t l m lo hi : Int) (b : Int) : pushC (.txt t l m lo hi) b = none ∨ ∃ t' l' m' lo' hi', pushC (.txt t l m lo hi) b = some (.txt t' l' m' lo' hi') := by simp only [pushC]; cases Tx.stp t (l, m, lo, hi) b; exact .inl rfl; exact .inr ⟨_, _, _, _, _, rfl⟩
set_option maxHeartbeats 4000000 in
set_option maxRecDepth 100000 in
theorem clo_txt (t l m lo hi : Int) (b r : Int) (hg : Good (.txt t l m lo hi) r) (hr : 0 < r) (hb : 0 ≤ b ∧ b < 256) (g : Nat) (w : World) (S : Nat → Prop) (h : Hs w S [blk g #[.int .i64 t, .int .i64 l, .int .i64 m, .int .u8 lo, .int .u8 hi] 171]) :
 Calls Try.prog 93 #[.int .u8 b, .pointer (some ⟨g, 0, none⟩)] w fun e w' => ∃ v, e = .returned (.tuple #[v, .bool (pushC (.txt t l m lo hi) b).isSome]) ∧ Sp w S [nx (pushC (.txt t l m lo hi) b) v] w' := by
 have hS := Sp.start h
 have hu := Try.underlying171
 have HP := Aside0.mk (fun W => push_txt t l m lo hi b r hg hr hb W)
 obtain ⟨s, hs⟩ : ∃ s, pushC (.txt t l m lo hi) b = s := ⟨_, rfl⟩
 rw [hs] at HP ⊢
 have HW := Aside0.mk (fun W => wrap_txt s (by rw [← hs]; exact kind_txt t l m lo hi b) W)
 obtain ⟨ok, hok⟩ : ∃ ok, s.isSome = ok := ⟨_, rfl⟩
 obtain ⟨cs, hcs⟩ : ∃ cs, cellstxt s = cs := ⟨_, rfl⟩
 rw [hok] at HP HW ⊢
 rw [hcs] at HP HW
 have hm : ∀ W, Sem.run Try.prog (method 309 171 (.agg #[.int .i64 t, .int .i64 l, .int .i64 m, .int .u8 lo, .int .u8 hi]) "Push") W = .ok (123, .agg #[.int .i64 t, .int .i64 l, .int .i64 m, .int .u8 lo, .int .u8 hi]) W := fun _ => by kernel_rfl
 obtain ⟨k0, k1, k2, k3, k4⟩ := hS.cells5 0
 clear h hg hr hs hok hcs
 go_enter Try.func93, Try.ntmps93
 go_wp2_with (first
  | (go_at_call 123
     (with_reducible refine (HP.out _).mono ?_)
     rintro e w2 ⟨rfl, hun⟩
     replace hS := hS.toN hun)
  | (go_at_call 82
     (with_reducible refine (HW.out _).mono ?_)
     rintro e w3 ⟨v, rfl, hq⟩
     replace hS := hS.post0 (hq.mo (fun _ h => h.elim))))
 go_ret2
 exact ⟨v, rfl, Sp.sel (l2 := [nx s v]) hS.lt [0]⟩
theorem start_num (tag n : Int) (s : Option Cs) (hs : (if okN tag n = true then some (Cs.num tag n 0 0) else none) = s) (w : World) :
 Calls Try.prog 75 #[.int .i64 tag, .int .i64 n] w fun e w' => e = .returned (.tuple #[.agg (cellsnum s), .bool s.isSome]) ∧ Upd None0 w w' := by
 subst hs
 have hp := BNum.start_eq 0 tag n
 by_cases h : okN tag n = true
 ·
  rw [if_pos h] at hp ⊢
  exact (number_Start.calls 1 tag n _ _ _ _ _ w hp).mono fun e w' ⟨he, hw⟩ => ⟨he, Upd.of_below hw⟩
 ·
  rw [if_neg h] at hp ⊢
  exact (number_Start.calls 1 tag n _ _ _ _ _ w hp).mono fun e w' ⟨he, hw⟩ => ⟨he, Upd.of_below hw⟩
theorem start_oid (tag n : Int) (s : Option Cs) (hs : (if n < 1 then none else some (Cs.oid n false)) = s) (w : World) :
 Calls Try.prog 77 #[.int .i64 n] w fun e w' => e = .returned (.tuple #[.agg (cellsoid s), .bool s.isSome]) ∧ Upd None0 w w' := by
 subst hs
 have hp : oid_Start.f n = some (if n < 1 then (0, false, false) else (n, false, true)) := by unfold oid_Start.f; split <;> rfl
 by_cases h : n < 1
 ·
  rw [if_pos h] at hp ⊢
  exact (oid_Start.calls n _ _ _ w hp).mono fun e w' ⟨he, hw⟩ => ⟨he, Upd.of_below hw⟩
 ·
  rw [if_neg h] at hp ⊢
  exact (oid_Start.calls n _ _ _ w hp).mono fun e w' ⟨he, hw⟩ => ⟨he, Upd.of_below hw⟩
theorem start_bit (tag n : Int) (s : Option Cs) (hs : (if n < 1 then none else some (Cs.bit n false 0)) = s) (w : World) :
 Calls Try.prog 79 #[.int .i64 n] w fun e w' => e = .returned (.tuple #[.agg (cellsbit s), .bool s.isSome]) ∧ Upd None0 w w' := by
 subst hs
 have hp : bitstr_Start.f n = some (if n < 1 then (0, false, 0, false) else (n, false, 0, true)) := by unfold bitstr_Start.f; split <;> rfl
 by_cases h : n < 1
 ·
  rw [if_pos h] at hp ⊢
  exact (bitstr_Start.calls n _ _ _ _ w hp).mono fun e w' ⟨he, hw⟩ => ⟨he, Upd.of_below hw⟩
 ·
  rw [if_neg h] at hp ⊢
  exact (bitstr_Start.calls n _ _ _ _ w hp).mono fun e w' ⟨he, hw⟩ => ⟨he, Upd.of_below hw⟩
theorem start_whn (tag n : Int) (s : Option Cs) (hs : (if (tag = 23 ∧ n = 13) ∨ (tag = 24 ∧ n = 15) then some (Cs.whn (decide (tag = 23)) [] n) else none) = s) (w : World) :
 Calls Try.prog 81 #[.int .i64 tag, .int .i64 n] w fun e w' => e = .returned (.tuple #[.agg (cellswhn s), .bool s.isSome]) ∧ Upd None0 w w' := by
 subst hs
 have h0 : strOfNums [] = (⟨#[]⟩ : ByteArray) := by decide
 by_cases h : (tag = 23 ∧ n = 13) ∨ (tag = 24 ∧ n = 15)
 ·
  rw [if_pos h]
  show Calls Try.prog _ _ w fun e w' => e = .returned (.tuple #[.agg #[.string (strOfNums []), .int .i64 n, .bool (decide (tag = 23))], .bool true]) ∧ Upd None0 w w'
  rw [h0]
  rcases h with ⟨rfl, rfl⟩ | ⟨rfl, rfl⟩
  ·
   exact (when_Start.calls 23 13 _ _ _ _ w (BDat.start_yes true)).mono fun e w' ⟨he, hw⟩ => ⟨he, Upd.of_below hw⟩
  ·
   exact (when_Start.calls 24 15 _ _ _ _ w (BDat.start_yes false)).mono fun e w' ⟨he, hw⟩ => ⟨he, Upd.of_below hw⟩
 ·
  rw [if_neg h]
  exact (when_Start.calls tag n _ _ _ _ w (BDat.start_no tag n (fun u hu => by cases u; exact h (.inr hu); exact h (.inl hu)))).mono fun e w' ⟨he, hw⟩ => ⟨he, Upd.of_below hw⟩
theorem start_txt (tag n : Int) (s : Option Cs) (hs : (if n < 0 then none else some (Cs.txt tag n 0 0 0)) = s) (w : World) :
 Calls Try.prog 83 #[.int .i64 tag, .int .i64 n] w fun e w' => e = .returned (.tuple #[.agg (cellstxt s), .bool s.isSome]) ∧ Upd None0 w w' := by
 subst hs
 have hp := BTxt.start_eq tag n
 by_cases h : n < 0
 ·
  rw [if_pos h] at hp ⊢
  exact (text_Start.calls tag n _ _ _ _ _ _ w hp).mono fun e w' ⟨he, hw⟩ => ⟨he, Upd.of_below hw⟩
 ·
  rw [if_neg h] at hp ⊢
  exact (text_Start.calls tag n _ _ _ _ _ _ w hp).mono fun e w' ⟨he, hw⟩ => ⟨he, Upd.of_below hw⟩
set_option maxHeartbeats 4000000 in
set_option maxRecDepth 100000 in
theorem start_any (cl tag n : Int) (cons : Bool) (w : World) :
 Calls Try.prog 58 #[.agg #[.int .i64 cl, .int .i64 tag, .bool cons, .int .i64 n]] w fun e w' => ∃ v, e = .returned (.tuple #[v, .bool (startC tag n).isSome]) ∧ Sp w None0 [nx (startC tag n) v] w' := by
 have hS := Sp.nil (w := w) (S := None0)
 have hu := Try.underlying32
 obtain ⟨s, hs⟩ : ∃ s, startC tag n = s := ⟨_, rfl⟩
 rw [hs]
 have BOX : True := trivial
 by_cases c0 : tag = 0 ∨ tag = 16 ∨ tag = 17
 ·
  unfold startC at hs
  rw [if_pos c0] at hs
  subst hs
  rcases c0 with rfl | rfl | rfl
  all_goals
   go_enter Try.func58, Try.ntmps58
   go_wp2_with (first
    | ((with_reducible refine gate_dst (N := 1) rfl ?_)
       refine sp_box hS rfl (N := 1) rfl _ 32 zz1 ?_
       intro g w1 hg hS
       obtain ⟨k0, k1, k2, k3⟩ := hS.cells4 0))
   go_ret2
   exact ⟨_, rfl, Sp.sel (l2 := [nx none _]) (nx_none zz25) [0]⟩
 by_cases c_num : tag = 1 ∨ tag = 2 ∨ tag = 5 ∨ tag = 10
 ·
  have hsc : startC tag n = (if okN tag n = true then some (Cs.num tag n 0 0) else none) := by unfold startC; rw [if_neg c0, if_pos c_num]
  have HST := Aside0.mk (fun W => start_num tag n s (by rw [← hs, hsc]) W)
  have HW := Aside0.mk (fun W => wrap_num s (by rw [← hs, hsc]; repeat' split <;> first | exact .inl rfl | exact .inr ⟨_, _, _, _, rfl⟩) W)
  obtain ⟨ok, hok⟩ : ∃ ok, s.isSome = ok := ⟨_, rfl⟩
  obtain ⟨cs, hcs⟩ : ∃ cs, cellsnum s = cs := ⟨_, rfl⟩
  rw [hok] at HST HW ⊢
  rw [hcs] at HST HW
  clear hs hok hcs hsc
  rcases c_num with rfl | rfl | rfl | rfl
  all_goals
   go_enter Try.func58, Try.ntmps58
   go_wp2_with (first
    | ((with_reducible refine gate_dst (N := 1) rfl ?_)
       refine sp_box hS rfl (N := 1) rfl _ 32 zz1 ?_
       intro g w1 hg hS
       obtain ⟨k0, k1, k2, k3⟩ := hS.cells4 0)
    | (go_at_call 75
       (with_reducible refine (HST.out _).mono ?_)
       rintro e w2 ⟨rfl, hun⟩
       replace hS := hS.toN hun)
    | (go_at_call 74
       (with_reducible refine (HW.out _).mono ?_)
       rintro e w3 ⟨v, rfl, hq⟩
       replace hS := hS.post0 (hq.mo (fun _ h => h.elim))))
   go_ret2
   exact ⟨v, rfl, Sp.sel (l2 := [nx s v]) hS.lt [0]⟩
 by_cases c_oid : tag = 6
 ·
  have hsc : startC tag n = (if n < 1 then none else some (Cs.oid n false)) := by unfold startC; rw [if_neg c0, if_neg c_num, if_pos c_oid]
  have HST := Aside0.mk (fun W => start_oid tag n s (by rw [← hs, hsc]) W)
  have HW := Aside0.mk (fun W => wrap_oid s (by rw [← hs, hsc]; repeat' split <;> first | exact .inl rfl | exact .inr ⟨_, _, rfl⟩) W)
  obtain ⟨ok, hok⟩ : ∃ ok, s.isSome = ok := ⟨_, rfl⟩
  obtain ⟨cs, hcs⟩ : ∃ cs, cellsoid s = cs := ⟨_, rfl⟩
  rw [hok] at HST HW ⊢
  rw [hcs] at HST HW
  clear hs hok hcs hsc
  subst c_oid
  all_goals
   go_enter Try.func58, Try.ntmps58
   go_wp2_with (first
    | ((with_reducible refine gate_dst (N := 1) rfl ?_)
       refine sp_box hS rfl (N := 1) rfl _ 32 zz1 ?_
       intro g w1 hg hS
       obtain ⟨k0, k1, k2, k3⟩ := hS.cells4 0)
    | (go_at_call 77
       (with_reducible refine (HST.out _).mono ?_)
       rintro e w2 ⟨rfl, hun⟩
       replace hS := hS.toN hun)
    | (go_at_call 76
       (with_reducible refine (HW.out _).mono ?_)
       rintro e w3 ⟨v, rfl, hq⟩
       replace hS := hS.post0 (hq.mo (fun _ h => h.elim))))
   go_ret2
   exact ⟨v, rfl, Sp.sel (l2 := [nx s v]) hS.lt [0]⟩
 by_cases c_bit : tag = 3
 ·
  have hsc : startC tag n = (if n < 1 then none else some (Cs.bit n false 0)) := by unfold startC; rw [if_neg c0, if_neg c_num, if_neg c_oid, if_pos c_bit]
  have HST := Aside0.mk (fun W => start_bit tag n s (by rw [← hs, hsc]) W)
  have HW := Aside0.mk (fun W => wrap_bit s (by rw [← hs, hsc]; repeat' split <;> first | exact .inl rfl | exact .inr ⟨_, _, _, rfl⟩) W)
  obtain ⟨ok, hok⟩ : ∃ ok, s.isSome = ok := ⟨_, rfl⟩
  obtain ⟨cs, hcs⟩ : ∃ cs, cellsbit s = cs := ⟨_, rfl⟩
  rw [hok] at HST HW ⊢
  rw [hcs] at HST HW
  clear hs hok hcs hsc
  subst c_bit
  all_goals
   go_enter Try.func58, Try.ntmps58
   go_wp2_with (first
    | ((with_reducible refine gate_dst (N := 1) rfl ?_)
       refine sp_box hS rfl (N := 1) rfl _ 32 zz1 ?_
       intro g w1 hg hS
       obtain ⟨k0, k1, k2, k3⟩ := hS.cells4 0)
    | (go_at_call 79
       (with_reducible refine (HST.out _).mono ?_)
       rintro e w2 ⟨rfl, hun⟩
       replace hS := hS.toN hun)
    | (go_at_call 78
       (with_reducible refine (HW.out _).mono ?_)
       rintro e w3 ⟨v, rfl, hq⟩
       replace hS := hS.post0 (hq.mo (fun _ h => h.elim))))
   go_ret2
   exact ⟨v, rfl, Sp.sel (l2 := [nx s v]) hS.lt [0]⟩
 by_cases c_whn : tag = 23 ∨ tag = 24
 ·
  have hsc : startC tag n = (if (tag = 23 ∧ n = 13) ∨ (tag = 24 ∧ n = 15) then some (Cs.whn (decide (tag = 23)) [] n) else none) := by unfold startC; rw [if_neg c0, if_neg c_num, if_neg c_oid, if_neg c_bit, if_pos c_whn]
  have HST := Aside0.mk (fun W => start_whn tag n s (by rw [← hs, hsc]) W)
  have HW := Aside0.mk (fun W => wrap_whn s (by rw [← hs, hsc]; repeat' split <;> first | exact .inl rfl | exact .inr ⟨_, _, _, rfl⟩) W)
  obtain ⟨ok, hok⟩ : ∃ ok, s.isSome = ok := ⟨_, rfl⟩
  obtain ⟨cs, hcs⟩ : ∃ cs, cellswhn s = cs := ⟨_, rfl⟩
  rw [hok] at HST HW ⊢
  rw [hcs] at HST HW
  clear hs hok hcs hsc
  rcases c_whn with rfl | rfl
  all_goals
   go_enter Try.func58, Try.ntmps58
   go_wp2_with (first
    | ((with_reducible refine gate_dst (N := 1) rfl ?_)
       refine sp_box hS rfl (N := 1) rfl _ 32 zz1 ?_
       intro g w1 hg hS
       obtain ⟨k0, k1, k2, k3⟩ := hS.cells4 0)
    | (go_at_call 81
       (with_reducible refine (HST.out _).mono ?_)
       rintro e w2 ⟨rfl, hun⟩
       replace hS := hS.toN hun)
    | (go_at_call 80
       (with_reducible refine (HW.out _).mono ?_)
       rintro e w3 ⟨v, rfl, hq⟩
       replace hS := hS.post0 (hq.mo (fun _ h => h.elim))))
   go_ret2
   exact ⟨v, rfl, Sp.sel (l2 := [nx s v]) hS.lt [0]⟩
 have hsc : startC tag n = (if n < 0 then none else some (Cs.txt tag n 0 0 0)) := by unfold startC; rw [if_neg c0, if_neg c_num, if_neg c_oid, if_neg c_bit, if_neg c_whn]
 have HST := Aside0.mk (fun W => start_txt tag n s (by rw [← hs, hsc]) W)
 have HW := Aside0.mk (fun W => wrap_txt s (by rw [← hs, hsc]; repeat' split <;> first | exact .inl rfl | exact .inr ⟨_, _, _, _, _, rfl⟩) W)
 obtain ⟨ok, hok⟩ : ∃ ok, s.isSome = ok := ⟨_, rfl⟩
 obtain ⟨cs, hcs⟩ : ∃ cs, cellstxt s = cs := ⟨_, rfl⟩
 rw [hok] at HST HW ⊢
 rw [hcs] at HST HW
 clear hs hok hcs hsc
 have z : ¬ (tag = 0) ∧ ¬ (tag = 16) ∧ ¬ (tag = 17) ∧ ¬ (tag = 1) ∧ ¬ (tag = 2) ∧ ¬ (tag = 5) ∧ ¬ (tag = 10) ∧ ¬ (tag = 6) ∧ ¬ (tag = 3) ∧ ¬ (tag = 23) ∧ ¬ (tag = 24) := by omega
 obtain ⟨z0, z1, z2, z3, z4, z5, z6, z7, z8, z9, z10⟩ := z
 clear c0 c_num c_oid c_bit c_whn
 all_goals
  go_enter Try.func58, Try.ntmps58
  go_wp2_with (first
   | ((with_reducible refine gate_dst (N := 1) rfl ?_)
      refine sp_box hS rfl (N := 1) rfl _ 32 zz1 ?_
      intro g w1 hg hS
      obtain ⟨k0, k1, k2, k3⟩ := hS.cells4 0)
   | (go_at_call 83
      (with_reducible refine (HST.out _).mono ?_)
      rintro e w2 ⟨rfl, hun⟩
      replace hS := hS.toN hun)
   | (go_at_call 82
      (with_reducible refine (HW.out _).mono ?_)
      rintro e w3 ⟨v, rfl, hq⟩
      replace hS := hS.post0 (hq.mo (fun _ h => h.elim))))
  go_ret2
  exact ⟨v, rfl, Sp.sel (l2 := [nx s v]) hS.lt [0]⟩
end Go.Proofs.Ytcfommconnlhgaa.Vp
namespace Go.Proofs.Ytcfommconnlhgaa.Vp
open RowKit PC YtcfommconnlhgaaW.PrintWords YtcfommconnlhgaaW.PrintLast YtcfommconnlhgaaW.PrintMore Own Sl
open Bs
set_option linter.unusedVariables false
set_option linter.unusedSimpArgs false
def kx : Option Cs → Value → Ast
 | none, _ => pu True
 | some s, v => nx (some s) v
def ck (g : Nat) (s : Option Cs) : Ast := ex fun v : Value => sep [blk g #[v, .bool s.isNone] 107, kx s v]
def lk (g : Nat) (s : Option Cs) : Ast := ex fun v : Value => sep [blk g #[v, .bool false] 107, kx s v]
theorem any_any (b : Int) (w : World) : Calls Try.prog 42 #[.int .u8 b] w fun e w' => e = .returned (.tuple #[.func (.func 42) #[] #[], .bool true]) ∧ w = w' := by
 go_enter Try.func42, Try.ntmps42
 go_wp2
 go_ret2
 exact ⟨rfl, rfl⟩
theorem ck_open {w : World} {S : Nat → Prop} {g : Nat} {s : Option Cs} (h : Hs w S [ck g s]) : ∃ v, Sp w S [blk g #[v, .bool s.isNone] 107, kx s v] w := by
 obtain ⟨v, h⟩ := (Sp.start h).ex0
 have := h.flat
 rw [List.append_nil] at this
 exact ⟨v, this⟩
theorem ck_shut {w0 w : World} {S : Nat → Prop} {g : Nat} {s : Option Cs} {v : Value} (h : Sp w0 S [blk g #[v, .bool s.isNone] 107, kx s v] w) : Sp w0 S [ck g s] w := Sp.exI v (Sp.fold _ (by rw [List.append_nil]; exact h))
theorem lk_shut {w0 w : World} {S : Nat → Prop} {g : Nat} {s : Option Cs} {v : Value} (h : Sp w0 S [blk g #[v, .bool false] 107, kx s v] w) : Sp w0 S [lk g s] w := Sp.exI v (Sp.fold _ (by rw [List.append_nil]; exact h))
theorem lk_none {w0 w : World} {S : Nat → Prop} {g : Nat} {v : Value} (h : Sp w0 S [blk g #[v, .bool false] 107] w) : Sp w0 S [lk g none] w := lk_shut (v := v) (h.more (a := kx none v) (Upd.refl _ _) trivial).swap
theorem ck_none {w0 w : World} {S : Nat → Prop} {g : Nat} {v : Value} (h : Sp w0 S [blk g #[v, .bool true] 107] w) : Sp w0 S [ck g none] w := ck_shut (v := v) (h.more (a := kx none v) (Upd.refl _ _) trivial).swap
theorem shape_num {t n a f : Int} {v : Value} {w : World} {T : Nat → Prop} (h : (nx (some (.num t n a f)) v).P w T) : ∃ g2 : Nat, v = .func (.func 89) #[] #[.pointer (some ⟨g2, 0, none⟩)] := by
 obtain ⟨g2, h⟩ := h
 exact ⟨g2, Hs.get h 0 _ rfl⟩
theorem shape_oid {l : Int} {wi : Bool} {v : Value} {w : World} {T : Nat → Prop} (h : (nx (some (.oid l wi)) v).P w T) : ∃ g2 : Nat, v = .func (.func 90) #[] #[.pointer (some ⟨g2, 0, none⟩)] := by
 obtain ⟨g2, h⟩ := h
 exact ⟨g2, Hs.get h 0 _ rfl⟩
theorem shape_bit {l : Int} {bg : Bool} {u : Int} {v : Value} {w : World} {T : Nat → Prop} (h : (nx (some (.bit l bg u)) v).P w T) : ∃ g2 : Nat, v = .func (.func 91) #[] #[.pointer (some ⟨g2, 0, none⟩)] := by
 obtain ⟨g2, h⟩ := h
 exact ⟨g2, Hs.get h 0 _ rfl⟩
theorem shape_whn {u : Bool} {D : List Int} {l : Int} {v : Value} {w : World} {T : Nat → Prop} (h : (nx (some (.whn u D l)) v).P w T) : ∃ g2 : Nat, v = .func (.func 92) #[] #[.pointer (some ⟨g2, 0, none⟩)] := by
 obtain ⟨g2, h⟩ := h
 exact ⟨g2, Hs.get h 0 _ rfl⟩
theorem shape_txt {t l m lo hi : Int} {v : Value} {w : World} {T : Nat → Prop} (h : (nx (some (.txt t l m lo hi)) v).P w T) : ∃ g2 : Nat, v = .func (.func 93) #[] #[.pointer (some ⟨g2, 0, none⟩)] := by
 obtain ⟨g2, h⟩ := h
 exact ⟨g2, Hs.get h 0 _ rfl⟩
set_option maxHeartbeats 4000000 in
set_option maxRecDepth 100000 in
theorem look_byte_num (g : Nat) (t n a f : Int) (at_ cl tag : Int) (cons : Bool) (ln b r : Int) (hg : Good (.num t n a f) r) (hr : 0 < r) (hb : 0 ≤ b ∧ b < 256) (w : World) (S : Nat → Prop) (h : Hs w S [ck g (some (.num t n a f))]) :
 Calls Try.prog 43 #[.pointer (some ⟨g, 0, none⟩), .agg #[.int .i64 3, .int .i64 at_, .int .i64 cl, .int .i64 tag, .bool cons, .int .i64 ln, .int .u8 b]] w fun e w' => e = .returned (.bool (pushC (.num t n a f) b).isSome) ∧ Sp w S [lk g (pushC (.num t n a f) b)] w' := by
 obtain ⟨v, hS⟩ := ck_open h
 have hu := Try.underlying34
 have hu2 := Try.underlying107
 obtain ⟨gc, hv⟩ := shape_num (hS.h.get 1 _ rfl)
 subst hv
 obtain ⟨gc2, hS⟩ := Sp.ex0 (Sp.swap hS)
 replace hS := hS.flat
 have hgc : gc2 = gc := by
  have hv : (Value.func (.func 89) #[] #[.pointer (some ⟨gc, 0, none⟩)]) = .func (.func 89) #[] #[.pointer (some ⟨gc2, 0, none⟩)] := hS.h.get 0 _ rfl
  injection hv with _ _ hv
  simp at hv
  exact hv.symm
 subst hgc
 replace hS := Sp.sel (l2 := [blk g #[.func (.func 89) #[] #[.pointer (some ⟨gc2, 0, none⟩)], .bool false] 107, blk gc2 #[.int .i64 t, .int .i64 n, .int .i64 a, .int .u8 f] 151]) hS [2, 1]
 have HC := Aside0.mk (fun W S' h => clo_num t n a f b r hg hr hb gc2 W S' h)
 have hkd := kind_num t n a f b
 clear h hg hr hb
 rcases hkd with hk | ⟨t2, n2, a2, f2, hk⟩
 ·
  rw [hk] at HC ⊢
  clear hk
  go_enter Try.func43, Try.ntmps43
  go_upto_region 2 with (first
   | ((with_reducible refine gate_dst (N := 3) rfl ?_)
      refine sp_box hS rfl (N := 3) rfl #[.int .i64 3, .int .i64 at_, .int .i64 cl, .int .i64 tag, .bool cons, .int .i64 ln, .int .u8 b] 34 zz1 ?_
      intro ge w1 hge hS
      obtain ⟨e0, e1, e2, e3, e4, e5, e6⟩ := hS.cells7 0
      obtain ⟨k0, k1⟩ := hS.cells2 1
      have kf := hS.fz 1))
  replace hS := Sp.sel (l2 := [blk gc2 #[.int .i64 t, .int .i64 n, .int .i64 a, .int .u8 f] 151, blk g #[.func (.func 89) #[] #[.pointer (some ⟨gc2, 0, none⟩)], .bool false] 107, blk ge #[.int .i64 3, .int .i64 at_, .int .i64 cl, .int .i64 tag, .bool cons, .int .i64 ln, .int .u8 b] 34]) hS [2, 1, 0]
  go_region_with (first
   | (go_at_call 89
      (with_reducible refine (HC.out _ (hS.ft 1) zz28).mono ?_)
      rintro e w3 ⟨v2, rfl, hq⟩
      replace hS := hS.post1 hq
      have hv2 : v2 = .nilFunc := hS.h.get 0 _ rfl
      subst hv2
      clear e0 e1 e2 e3 e4 e5 e6 k0 k1 kf
      obtain ⟨k0, k1⟩ := hS.cells2 1
      have kf := hS.fz 1))
  all_goals
   go_wp2
   go_ret
   exact ⟨rfl, lk_none (Sp.sel (l2 := [blk g #[.nilFunc, .bool false] 107]) ((hS.set_ 1 0 _).lt) [1])⟩
 ·
  rw [hk] at HC ⊢
  clear hk
  go_enter Try.func43, Try.ntmps43
  go_upto_region 2 with (first
   | ((with_reducible refine gate_dst (N := 3) rfl ?_)
      refine sp_box hS rfl (N := 3) rfl #[.int .i64 3, .int .i64 at_, .int .i64 cl, .int .i64 tag, .bool cons, .int .i64 ln, .int .u8 b] 34 zz1 ?_
      intro ge w1 hge hS
      obtain ⟨e0, e1, e2, e3, e4, e5, e6⟩ := hS.cells7 0
      obtain ⟨k0, k1⟩ := hS.cells2 1
      have kf := hS.fz 1))
  replace hS := Sp.sel (l2 := [blk gc2 #[.int .i64 t, .int .i64 n, .int .i64 a, .int .u8 f] 151, blk g #[.func (.func 89) #[] #[.pointer (some ⟨gc2, 0, none⟩)], .bool false] 107, blk ge #[.int .i64 3, .int .i64 at_, .int .i64 cl, .int .i64 tag, .bool cons, .int .i64 ln, .int .u8 b] 34]) hS [2, 1, 0]
  go_region_with (first
   | (go_at_call 89
      (with_reducible refine (HC.out _ (hS.ft 1) zz28).mono ?_)
      rintro e w3 ⟨v2, rfl, hq⟩
      replace hS := hS.post1 hq
      obtain ⟨g2, hv2⟩ := shape_num (hS.h.get 0 _ rfl)
      subst hv2
      clear e0 e1 e2 e3 e4 e5 e6 k0 k1 kf
      obtain ⟨k0, k1⟩ := hS.cells2 1
      have kf := hS.fz 1))
  all_goals
   go_wp2
   go_ret
   exact ⟨rfl, lk_shut (s := some (.num t2 n2 a2 f2)) (Sp.sel (l2 := [blk g #[.func (.func 89) #[] #[.pointer (some ⟨g2, 0, none⟩)], .bool false] 107, kx (some (.num t2 n2 a2 f2)) _]) ((hS.set_ 1 0 _).lt) [1, 0])⟩
set_option maxHeartbeats 4000000 in
set_option maxRecDepth 100000 in
theorem look_byte_oid (g : Nat) (l : Int) (wi : Bool) (at_ cl tag : Int) (cons : Bool) (ln b r : Int) (hg : Good (.oid l wi) r) (hr : 0 < r) (hb : 0 ≤ b ∧ b < 256) (w : World) (S : Nat → Prop) (h : Hs w S [ck g (some (.oid l wi))]) :
 Calls Try.prog 43 #[.pointer (some ⟨g, 0, none⟩), .agg #[.int .i64 3, .int .i64 at_, .int .i64 cl, .int .i64 tag, .bool cons, .int .i64 ln, .int .u8 b]] w fun e w' => e = .returned (.bool (pushC (.oid l wi) b).isSome) ∧ Sp w S [lk g (pushC (.oid l wi) b)] w' := by
 obtain ⟨v, hS⟩ := ck_open h
 have hu := Try.underlying34
 have hu2 := Try.underlying107
 obtain ⟨gc, hv⟩ := shape_oid (hS.h.get 1 _ rfl)
 subst hv
 obtain ⟨gc2, hS⟩ := Sp.ex0 (Sp.swap hS)
 replace hS := hS.flat
 have hgc : gc2 = gc := by
  have hv : (Value.func (.func 90) #[] #[.pointer (some ⟨gc, 0, none⟩)]) = .func (.func 90) #[] #[.pointer (some ⟨gc2, 0, none⟩)] := hS.h.get 0 _ rfl
  injection hv with _ _ hv
  simp at hv
  exact hv.symm
 subst hgc
 replace hS := Sp.sel (l2 := [blk g #[.func (.func 90) #[] #[.pointer (some ⟨gc2, 0, none⟩)], .bool false] 107, blk gc2 #[.int .i64 l, .bool wi] 156]) hS [2, 1]
 have HC := Aside0.mk (fun W S' h => clo_oid l wi b r hg hr hb gc2 W S' h)
 have hkd := kind_oid l wi b
 clear h hg hr hb
 rcases hkd with hk | ⟨l2, wi2, hk⟩
 ·
  rw [hk] at HC ⊢
  clear hk
  go_enter Try.func43, Try.ntmps43
  go_upto_region 2 with (first
   | ((with_reducible refine gate_dst (N := 3) rfl ?_)
      refine sp_box hS rfl (N := 3) rfl #[.int .i64 3, .int .i64 at_, .int .i64 cl, .int .i64 tag, .bool cons, .int .i64 ln, .int .u8 b] 34 zz1 ?_
      intro ge w1 hge hS
      obtain ⟨e0, e1, e2, e3, e4, e5, e6⟩ := hS.cells7 0
      obtain ⟨k0, k1⟩ := hS.cells2 1
      have kf := hS.fz 1))
  replace hS := Sp.sel (l2 := [blk gc2 #[.int .i64 l, .bool wi] 156, blk g #[.func (.func 90) #[] #[.pointer (some ⟨gc2, 0, none⟩)], .bool false] 107, blk ge #[.int .i64 3, .int .i64 at_, .int .i64 cl, .int .i64 tag, .bool cons, .int .i64 ln, .int .u8 b] 34]) hS [2, 1, 0]
  go_region_with (first
   | (go_at_call 90
      (with_reducible refine (HC.out _ (hS.ft 1) zz28).mono ?_)
      rintro e w3 ⟨v2, rfl, hq⟩
      replace hS := hS.post1 hq
      have hv2 : v2 = .nilFunc := hS.h.get 0 _ rfl
      subst hv2
      clear e0 e1 e2 e3 e4 e5 e6 k0 k1 kf
      obtain ⟨k0, k1⟩ := hS.cells2 1
      have kf := hS.fz 1))
  all_goals
   go_wp2
   go_ret
   exact ⟨rfl, lk_none (Sp.sel (l2 := [blk g #[.nilFunc, .bool false] 107]) ((hS.set_ 1 0 _).lt) [1])⟩
 ·
  rw [hk] at HC ⊢
  clear hk
  go_enter Try.func43, Try.ntmps43
  go_upto_region 2 with (first
   | ((with_reducible refine gate_dst (N := 3) rfl ?_)
      refine sp_box hS rfl (N := 3) rfl #[.int .i64 3, .int .i64 at_, .int .i64 cl, .int .i64 tag, .bool cons, .int .i64 ln, .int .u8 b] 34 zz1 ?_
      intro ge w1 hge hS
      obtain ⟨e0, e1, e2, e3, e4, e5, e6⟩ := hS.cells7 0
      obtain ⟨k0, k1⟩ := hS.cells2 1
      have kf := hS.fz 1))
  replace hS := Sp.sel (l2 := [blk gc2 #[.int .i64 l, .bool wi] 156, blk g #[.func (.func 90) #[] #[.pointer (some ⟨gc2, 0, none⟩)], .bool false] 107, blk ge #[.int .i64 3, .int .i64 at_, .int .i64 cl, .int .i64 tag, .bool cons, .int .i64 ln, .int .u8 b] 34]) hS [2, 1, 0]
  go_region_with (first
   | (go_at_call 90
      (with_reducible refine (HC.out _ (hS.ft 1) zz28).mono ?_)
      rintro e w3 ⟨v2, rfl, hq⟩
      replace hS := hS.post1 hq
      obtain ⟨g2, hv2⟩ := shape_oid (hS.h.get 0 _ rfl)
      subst hv2
      clear e0 e1 e2 e3 e4 e5 e6 k0 k1 kf
      obtain ⟨k0, k1⟩ := hS.cells2 1
      have kf := hS.fz 1))
  all_goals
   go_wp2
   go_ret
   exact ⟨rfl, lk_shut (s := some (.oid l2 wi2)) (Sp.sel (l2 := [blk g #[.func (.func 90) #[] #[.pointer (some ⟨g2, 0, none⟩)], .bool false] 107, kx (some (.oid l2 wi2)) _]) ((hS.set_ 1 0 _).lt) [1, 0])⟩
set_option maxHeartbeats 4000000 in
set_option maxRecDepth 100000 in
theorem look_byte_bit (g : Nat) (l : Int) (bg : Bool) (u : Int) (at_ cl tag : Int) (cons : Bool) (ln b r : Int) (hg : Good (.bit l bg u) r) (hr : 0 < r) (hb : 0 ≤ b ∧ b < 256) (w : World) (S : Nat → Prop) (h : Hs w S [ck g (some (.bit l bg u))]) :
 Calls Try.prog 43 #[.pointer (some ⟨g, 0, none⟩), .agg #[.int .i64 3, .int .i64 at_, .int .i64 cl, .int .i64 tag, .bool cons, .int .i64 ln, .int .u8 b]] w fun e w' => e = .returned (.bool (pushC (.bit l bg u) b).isSome) ∧ Sp w S [lk g (pushC (.bit l bg u) b)] w' := by
 obtain ⟨v, hS⟩ := ck_open h
 have hu := Try.underlying34
 have hu2 := Try.underlying107
 obtain ⟨gc, hv⟩ := shape_bit (hS.h.get 1 _ rfl)
 subst hv
 obtain ⟨gc2, hS⟩ := Sp.ex0 (Sp.swap hS)
 replace hS := hS.flat
 have hgc : gc2 = gc := by
  have hv : (Value.func (.func 91) #[] #[.pointer (some ⟨gc, 0, none⟩)]) = .func (.func 91) #[] #[.pointer (some ⟨gc2, 0, none⟩)] := hS.h.get 0 _ rfl
  injection hv with _ _ hv
  simp at hv
  exact hv.symm
 subst hgc
 replace hS := Sp.sel (l2 := [blk g #[.func (.func 91) #[] #[.pointer (some ⟨gc2, 0, none⟩)], .bool false] 107, blk gc2 #[.int .i64 l, .bool bg, .int .u8 u] 161]) hS [2, 1]
 have HC := Aside0.mk (fun W S' h => clo_bit l bg u b r hg hr hb gc2 W S' h)
 have hkd := kind_bit l bg u b
 clear h hg hr hb
 rcases hkd with hk | ⟨l2, bg2, u2, hk⟩
 ·
  rw [hk] at HC ⊢
  clear hk
  go_enter Try.func43, Try.ntmps43
  go_upto_region 2 with (first
   | ((with_reducible refine gate_dst (N := 3) rfl ?_)
      refine sp_box hS rfl (N := 3) rfl #[.int .i64 3, .int .i64 at_, .int .i64 cl, .int .i64 tag, .bool cons, .int .i64 ln, .int .u8 b] 34 zz1 ?_
      intro ge w1 hge hS
      obtain ⟨e0, e1, e2, e3, e4, e5, e6⟩ := hS.cells7 0
      obtain ⟨k0, k1⟩ := hS.cells2 1
      have kf := hS.fz 1))
  replace hS := Sp.sel (l2 := [blk gc2 #[.int .i64 l, .bool bg, .int .u8 u] 161, blk g #[.func (.func 91) #[] #[.pointer (some ⟨gc2, 0, none⟩)], .bool false] 107, blk ge #[.int .i64 3, .int .i64 at_, .int .i64 cl, .int .i64 tag, .bool cons, .int .i64 ln, .int .u8 b] 34]) hS [2, 1, 0]
  go_region_with (first
   | (go_at_call 91
      (with_reducible refine (HC.out _ (hS.ft 1) zz28).mono ?_)
      rintro e w3 ⟨v2, rfl, hq⟩
      replace hS := hS.post1 hq
      have hv2 : v2 = .nilFunc := hS.h.get 0 _ rfl
      subst hv2
      clear e0 e1 e2 e3 e4 e5 e6 k0 k1 kf
      obtain ⟨k0, k1⟩ := hS.cells2 1
      have kf := hS.fz 1))
  all_goals
   go_wp2
   go_ret
   exact ⟨rfl, lk_none (Sp.sel (l2 := [blk g #[.nilFunc, .bool false] 107]) ((hS.set_ 1 0 _).lt) [1])⟩
 ·
  rw [hk] at HC ⊢
  clear hk
  go_enter Try.func43, Try.ntmps43
  go_upto_region 2 with (first
   | ((with_reducible refine gate_dst (N := 3) rfl ?_)
      refine sp_box hS rfl (N := 3) rfl #[.int .i64 3, .int .i64 at_, .int .i64 cl, .int .i64 tag, .bool cons, .int .i64 ln, .int .u8 b] 34 zz1 ?_
      intro ge w1 hge hS
      obtain ⟨e0, e1, e2, e3, e4, e5, e6⟩ := hS.cells7 0
      obtain ⟨k0, k1⟩ := hS.cells2 1
      have kf := hS.fz 1))
  replace hS := Sp.sel (l2 := [blk gc2 #[.int .i64 l, .bool bg, .int .u8 u] 161, blk g #[.func (.func 91) #[] #[.pointer (some ⟨gc2, 0, none⟩)], .bool false] 107, blk ge #[.int .i64 3, .int .i64 at_, .int .i64 cl, .int .i64 tag, .bool cons, .int .i64 ln, .int .u8 b] 34]) hS [2, 1, 0]
  go_region_with (first
   | (go_at_call 91
      (with_reducible refine (HC.out _ (hS.ft 1) zz28).mono ?_)
      rintro e w3 ⟨v2, rfl, hq⟩
      replace hS := hS.post1 hq
      obtain ⟨g2, hv2⟩ := shape_bit (hS.h.get 0 _ rfl)
      subst hv2
      clear e0 e1 e2 e3 e4 e5 e6 k0 k1 kf
      obtain ⟨k0, k1⟩ := hS.cells2 1
      have kf := hS.fz 1))
  all_goals
   go_wp2
   go_ret
   exact ⟨rfl, lk_shut (s := some (.bit l2 bg2 u2)) (Sp.sel (l2 := [blk g #[.func (.func 91) #[] #[.pointer (some ⟨g2, 0, none⟩)], .bool false] 107, kx (some (.bit l2 bg2 u2)) _]) ((hS.set_ 1 0 _).lt) [1, 0])⟩
set_option maxHeartbeats 4000000 in
set_option maxRecDepth 100000 in
theorem look_byte_whn (g : Nat) (u : Bool) (D : List Int) (l : Int) (at_ cl tag : Int) (cons : Bool) (ln b r : Int) (hg : Good (.whn u D l) r) (hr : 0 < r) (hb : 0 ≤ b ∧ b < 256) (w : World) (S : Nat → Prop) (h : Hs w S [ck g (some (.whn u D l))]) :
 Calls Try.prog 43 #[.pointer (some ⟨g, 0, none⟩), .agg #[.int .i64 3, .int .i64 at_, .int .i64 cl, .int .i64 tag, .bool cons, .int .i64 ln, .int .u8 b]] w fun e w' => e = .returned (.bool (pushC (.whn u D l) b).isSome) ∧ Sp w S [lk g (pushC (.whn u D l) b)] w' := by
 obtain ⟨v, hS⟩ := ck_open h
 have hu := Try.underlying34
 have hu2 := Try.underlying107
 obtain ⟨gc, hv⟩ := shape_whn (hS.h.get 1 _ rfl)
 subst hv
 obtain ⟨gc2, hS⟩ := Sp.ex0 (Sp.swap hS)
 replace hS := hS.flat
 have hgc : gc2 = gc := by
  have hv : (Value.func (.func 92) #[] #[.pointer (some ⟨gc, 0, none⟩)]) = .func (.func 92) #[] #[.pointer (some ⟨gc2, 0, none⟩)] := hS.h.get 0 _ rfl
  injection hv with _ _ hv
  simp at hv
  exact hv.symm
 subst hgc
 replace hS := Sp.sel (l2 := [blk g #[.func (.func 92) #[] #[.pointer (some ⟨gc2, 0, none⟩)], .bool false] 107, blk gc2 #[.string (strOfNums D), .int .i64 l, .bool u] 166]) hS [2, 1]
 have HC := Aside0.mk (fun W S' h => clo_whn u D l b r hg hr hb gc2 W S' h)
 have hkd := kind_whn u D l b
 clear h hg hr hb
 rcases hkd with hk | ⟨u2, D2, l2, hk⟩
 ·
  rw [hk] at HC ⊢
  clear hk
  go_enter Try.func43, Try.ntmps43
  go_upto_region 2 with (first
   | ((with_reducible refine gate_dst (N := 3) rfl ?_)
      refine sp_box hS rfl (N := 3) rfl #[.int .i64 3, .int .i64 at_, .int .i64 cl, .int .i64 tag, .bool cons, .int .i64 ln, .int .u8 b] 34 zz1 ?_
      intro ge w1 hge hS
      obtain ⟨e0, e1, e2, e3, e4, e5, e6⟩ := hS.cells7 0
      obtain ⟨k0, k1⟩ := hS.cells2 1
      have kf := hS.fz 1))
  replace hS := Sp.sel (l2 := [blk gc2 #[.string (strOfNums D), .int .i64 l, .bool u] 166, blk g #[.func (.func 92) #[] #[.pointer (some ⟨gc2, 0, none⟩)], .bool false] 107, blk ge #[.int .i64 3, .int .i64 at_, .int .i64 cl, .int .i64 tag, .bool cons, .int .i64 ln, .int .u8 b] 34]) hS [2, 1, 0]
  go_region_with (first
   | (go_at_call 92
      (with_reducible refine (HC.out _ (hS.ft 1) zz28).mono ?_)
      rintro e w3 ⟨v2, rfl, hq⟩
      replace hS := hS.post1 hq
      have hv2 : v2 = .nilFunc := hS.h.get 0 _ rfl
      subst hv2
      clear e0 e1 e2 e3 e4 e5 e6 k0 k1 kf
      obtain ⟨k0, k1⟩ := hS.cells2 1
      have kf := hS.fz 1))
  all_goals
   go_wp2
   go_ret
   exact ⟨rfl, lk_none (Sp.sel (l2 := [blk g #[.nilFunc, .bool false] 107]) ((hS.set_ 1 0 _).lt) [1])⟩
 ·
  rw [hk] at HC ⊢
  clear hk
  go_enter Try.func43, Try.ntmps43
  go_upto_region 2 with (first
   | ((with_reducible refine gate_dst (N := 3) rfl ?_)
      refine sp_box hS rfl (N := 3) rfl #[.int .i64 3, .int .i64 at_, .int .i64 cl, .int .i64 tag, .bool cons, .int .i64 ln, .int .u8 b] 34 zz1 ?_
      intro ge w1 hge hS
      obtain ⟨e0, e1, e2, e3, e4, e5, e6⟩ := hS.cells7 0
      obtain ⟨k0, k1⟩ := hS.cells2 1
      have kf := hS.fz 1))
  replace hS := Sp.sel (l2 := [blk gc2 #[.string (strOfNums D), .int .i64 l, .bool u] 166, blk g #[.func (.func 92) #[] #[.pointer (some ⟨gc2, 0, none⟩)], .bool false] 107, blk ge #[.int .i64 3, .int .i64 at_, .int .i64 cl, .int .i64 tag, .bool cons, .int .i64 ln, .int .u8 b] 34]) hS [2, 1, 0]
  go_region_with (first
   | (go_at_call 92
      (with_reducible refine (HC.out _ (hS.ft 1) zz28).mono ?_)
      rintro e w3 ⟨v2, rfl, hq⟩
      replace hS := hS.post1 hq
      obtain ⟨g2, hv2⟩ := shape_whn (hS.h.get 0 _ rfl)
      subst hv2
      clear e0 e1 e2 e3 e4 e5 e6 k0 k1 kf
      obtain ⟨k0, k1⟩ := hS.cells2 1
      have kf := hS.fz 1))
  all_goals
   go_wp2
   go_ret
   exact ⟨rfl, lk_shut (s := some (.whn u2 D2 l2)) (Sp.sel (l2 := [blk g #[.func (.func 92) #[] #[.pointer (some ⟨g2, 0, none⟩)], .bool false] 107, kx (some (.whn u2 D2 l2)) _]) ((hS.set_ 1 0 _).lt) [1, 0])⟩
set_option maxHeartbeats 4000000 in
set_option maxRecDepth 100000 in
theorem look_byte_txt (g : Nat) (t l m lo hi : Int) (at_ cl tag : Int) (cons : Bool) (ln b r : Int) (hg : Good (.txt t l m lo hi) r) (hr : 0 < r) (hb : 0 ≤ b ∧ b < 256) (w : World) (S : Nat → Prop) (h : Hs w S [ck g (some (.txt t l m lo hi))]) :
 Calls Try.prog 43 #[.pointer (some ⟨g, 0, none⟩), .agg #[.int .i64 3, .int .i64 at_, .int .i64 cl, .int .i64 tag, .bool cons, .int .i64 ln, .int .u8 b]] w fun e w' => e = .returned (.bool (pushC (.txt t l m lo hi) b).isSome) ∧ Sp w S [lk g (pushC (.txt t l m lo hi) b)] w' := by
 obtain ⟨v, hS⟩ := ck_open h
 have hu := Try.underlying34
 have hu2 := Try.underlying107
 obtain ⟨gc, hv⟩ := shape_txt (hS.h.get 1 _ rfl)
 subst hv
 obtain ⟨gc2, hS⟩ := Sp.ex0 (Sp.swap hS)
 replace hS := hS.flat
 have hgc : gc2 = gc := by
  have hv : (Value.func (.func 93) #[] #[.pointer (some ⟨gc, 0, none⟩)]) = .func (.func 93) #[] #[.pointer (some ⟨gc2, 0, none⟩)] := hS.h.get 0 _ rfl
  injection hv with _ _ hv
  simp at hv
  exact hv.symm
 subst hgc
 replace hS := Sp.sel (l2 := [blk g #[.func (.func 93) #[] #[.pointer (some ⟨gc2, 0, none⟩)], .bool false] 107, blk gc2 #[.int .i64 t, .int .i64 l, .int .i64 m, .int .u8 lo, .int .u8 hi] 171]) hS [2, 1]
 have HC := Aside0.mk (fun W S' h => clo_txt t l m lo hi b r hg hr hb gc2 W S' h)
 have hkd := kind_txt t l m lo hi b
 clear h hg hr hb
 rcases hkd with hk | ⟨t2, l2, m2, lo2, hi2, hk⟩
 ·
  rw [hk] at HC ⊢
  clear hk
  go_enter Try.func43, Try.ntmps43
  go_upto_region 2 with (first
   | ((with_reducible refine gate_dst (N := 3) rfl ?_)
      refine sp_box hS rfl (N := 3) rfl #[.int .i64 3, .int .i64 at_, .int .i64 cl, .int .i64 tag, .bool cons, .int .i64 ln, .int .u8 b] 34 zz1 ?_
      intro ge w1 hge hS
      obtain ⟨e0, e1, e2, e3, e4, e5, e6⟩ := hS.cells7 0
      obtain ⟨k0, k1⟩ := hS.cells2 1
      have kf := hS.fz 1))
  replace hS := Sp.sel (l2 := [blk gc2 #[.int .i64 t, .int .i64 l, .int .i64 m, .int .u8 lo, .int .u8 hi] 171, blk g #[.func (.func 93) #[] #[.pointer (some ⟨gc2, 0, none⟩)], .bool false] 107, blk ge #[.int .i64 3, .int .i64 at_, .int .i64 cl, .int .i64 tag, .bool cons, .int .i64 ln, .int .u8 b] 34]) hS [2, 1, 0]
  go_region_with (first
   | (go_at_call 93
      (with_reducible refine (HC.out _ (hS.ft 1) zz28).mono ?_)
      rintro e w3 ⟨v2, rfl, hq⟩
      replace hS := hS.post1 hq
      have hv2 : v2 = .nilFunc := hS.h.get 0 _ rfl
      subst hv2
      clear e0 e1 e2 e3 e4 e5 e6 k0 k1 kf
      obtain ⟨k0, k1⟩ := hS.cells2 1
      have kf := hS.fz 1))
  all_goals
   go_wp2
   go_ret
   exact ⟨rfl, lk_none (Sp.sel (l2 := [blk g #[.nilFunc, .bool false] 107]) ((hS.set_ 1 0 _).lt) [1])⟩
 ·
  rw [hk] at HC ⊢
  clear hk
  go_enter Try.func43, Try.ntmps43
  go_upto_region 2 with (first
   | ((with_reducible refine gate_dst (N := 3) rfl ?_)
      refine sp_box hS rfl (N := 3) rfl #[.int .i64 3, .int .i64 at_, .int .i64 cl, .int .i64 tag, .bool cons, .int .i64 ln, .int .u8 b] 34 zz1 ?_
      intro ge w1 hge hS
      obtain ⟨e0, e1, e2, e3, e4, e5, e6⟩ := hS.cells7 0
      obtain ⟨k0, k1⟩ := hS.cells2 1
      have kf := hS.fz 1))
  replace hS := Sp.sel (l2 := [blk gc2 #[.int .i64 t, .int .i64 l, .int .i64 m, .int .u8 lo, .int .u8 hi] 171, blk g #[.func (.func 93) #[] #[.pointer (some ⟨gc2, 0, none⟩)], .bool false] 107, blk ge #[.int .i64 3, .int .i64 at_, .int .i64 cl, .int .i64 tag, .bool cons, .int .i64 ln, .int .u8 b] 34]) hS [2, 1, 0]
  go_region_with (first
   | (go_at_call 93
      (with_reducible refine (HC.out _ (hS.ft 1) zz28).mono ?_)
      rintro e w3 ⟨v2, rfl, hq⟩
      replace hS := hS.post1 hq
      obtain ⟨g2, hv2⟩ := shape_txt (hS.h.get 0 _ rfl)
      subst hv2
      clear e0 e1 e2 e3 e4 e5 e6 k0 k1 kf
      obtain ⟨k0, k1⟩ := hS.cells2 1
      have kf := hS.fz 1))
  all_goals
   go_wp2
   go_ret
   exact ⟨rfl, lk_shut (s := some (.txt t2 l2 m2 lo2 hi2)) (Sp.sel (l2 := [blk g #[.func (.func 93) #[] #[.pointer (some ⟨g2, 0, none⟩)], .bool false] 107, kx (some (.txt t2 l2 m2 lo2 hi2)) _]) ((hS.set_ 1 0 _).lt) [1, 0])⟩
end Go.Proofs.Ytcfommconnlhgaa.Vp
namespace Go.Proofs.Ytcfommconnlhgaa.Vp
open RowKit PC YtcfommconnlhgaaW.PrintWords YtcfommconnlhgaaW.PrintLast YtcfommconnlhgaaW.PrintMore Own Sl
open Bs
set_option linter.unusedVariables false
set_option linter.unusedSimpArgs false
theorem fn_nx {s : Cs} {v : Value} {w : World} {T : Nat → Prop} (h : (nx (some s) v).P w T) : ∃ fn cap, v = .func fn #[] cap := by
 cases s with
 | any => exact ⟨_, _, h⟩
 | num _ _ _ _ => obtain ⟨g2, hv⟩ := shape_num h; exact ⟨_, _, hv⟩
 | oid _ _ => obtain ⟨g2, hv⟩ := shape_oid h; exact ⟨_, _, hv⟩
 | bit _ _ _ => obtain ⟨g2, hv⟩ := shape_bit h; exact ⟨_, _, hv⟩
 | whn _ _ _ => obtain ⟨g2, hv⟩ := shape_whn h; exact ⟨_, _, hv⟩
 | txt _ _ _ _ _ => obtain ⟨g2, hv⟩ := shape_txt h; exact ⟨_, _, hv⟩
set_option maxHeartbeats 4000000 in
set_option maxRecDepth 100000 in
theorem look_byte_any (g : Nat) (at_ cl tag : Int) (cons : Bool) (ln b : Int) (w : World) (S : Nat → Prop) (h : Hs w S [ck g (some .any)]) :
 Calls Try.prog 43 #[.pointer (some ⟨g, 0, none⟩), .agg #[.int .i64 3, .int .i64 at_, .int .i64 cl, .int .i64 tag, .bool cons, .int .i64 ln, .int .u8 b]] w fun e w' => e = .returned (.bool (pushC .any b).isSome) ∧ Sp w S [lk g (pushC .any b)] w' := by
 obtain ⟨v, hS⟩ := ck_open h
 have hu := Try.underlying34
 have hu2 := Try.underlying107
 have hv : v = .func (.func 42) #[] #[] := hS.h.get 1 _ rfl
 subst hv
 have HC := Aside0.mk (fun W => any_any b W)
 clear h
 go_enter Try.func43, Try.ntmps43
 go_upto_region 2 with (first
  | ((with_reducible refine gate_dst (N := 3) rfl ?_)
     refine sp_box hS rfl (N := 3) rfl _ 34 zz1 ?_
     intro ge w1 hge hS
     obtain ⟨e0, e1, e2, e3, e4, e5, e6⟩ := hS.cells7 0
     obtain ⟨k0, k1⟩ := hS.cells2 1
     have kf := hS.fz 1))
 go_region_with (first
  | (go_at_call 42
     (with_reducible refine (HC.out _).mono ?_)
     rintro e w3 ⟨rfl, hw⟩
     replace hS := hS.toN (w2 := w3) (show Upd None0 w1.drew w3 by rw [hw]; exact Upd.refl _ _)
     clear e0 e1 e2 e3 e4 e5 e6 k0 k1 kf hw
     obtain ⟨k0, k1⟩ := hS.cells2 1
     have kf := hS.fz 1))
 all_goals
  go_wp2
  go_ret
  exact ⟨rfl, lk_shut (s := some .any) (Sp.sel (l2 := [blk g #[.func (.func 42) #[] #[], .bool false] 107, kx (some .any) _]) ((hS.set_ 1 0 _).lt) [1, 2])⟩
set_option maxHeartbeats 4000000 in
set_option maxRecDepth 100000 in
theorem look_enter (g : Nat) (s : Cs) (at_ cl tag : Int) (cons : Bool) (ln b : Int) (hc : cl = 0) (w : World) (S : Nat → Prop) (h : Hs w S [ck g (some s)]) :
 Calls Try.prog 43 #[.pointer (some ⟨g, 0, none⟩), .agg #[.int .i64 1, .int .i64 at_, .int .i64 cl, .int .i64 tag, .bool cons, .int .i64 ln, .int .u8 b]] w fun e w' => e = .returned (.bool ((if tag = 16 ∨ tag = 17 then some s else none)).isSome) ∧ Sp w S [lk g ((if tag = 16 ∨ tag = 17 then some s else none))] w' := by
 obtain ⟨v, hS⟩ := ck_open h
 have hu := Try.underlying34
 have hu2 := Try.underlying107
 subst hc
 clear h
 have key : ∀ x : Option Cs, (x = some s ∨ x = none) → ∀ w', Sp w S [blk g #[v, .bool false] 107, kx (some s) v] w' → Sp w S [lk g x] w' := by
  intro x hx w' h
  rcases hx with rfl | rfl
  ·
   exact lk_shut h
  ·
   exact lk_none (h.sel [0])
 by_cases h1 : tag = 16
 ·
  subst h1
  go_enter Try.func43, Try.ntmps43
  go_wp2_with (first
   | ((with_reducible refine gate_dst (N := 3) rfl ?_)
      refine sp_box hS rfl (N := 3) rfl _ 34 zz1 ?_
      intro ge w1 hge hS
      obtain ⟨e0, e1, e2, e3, e4, e5, e6⟩ := hS.cells7 0
      obtain ⟨k0, k1⟩ := hS.cells2 1
      have kf := hS.fz 1))
  go_ret
  exact ⟨rfl, key (some s) (.inl rfl) _ (Sp.sel (l2 := [blk g #[v, .bool false] 107, kx (some s) v]) hS.lt [1, 2])⟩
 by_cases h2 : tag = 17
 ·
  subst h2
  go_enter Try.func43, Try.ntmps43
  go_wp2_with (first
   | ((with_reducible refine gate_dst (N := 3) rfl ?_)
      refine sp_box hS rfl (N := 3) rfl _ 34 zz1 ?_
      intro ge w1 hge hS
      obtain ⟨e0, e1, e2, e3, e4, e5, e6⟩ := hS.cells7 0
      obtain ⟨k0, k1⟩ := hS.cells2 1
      have kf := hS.fz 1))
  go_ret
  exact ⟨rfl, key (some s) (.inl rfl) _ (Sp.sel (l2 := [blk g #[v, .bool false] 107, kx (some s) v]) hS.lt [1, 2])⟩
 ·
  have d1 : (tag == 16) = false := by simpa using h1
  have d2 : (tag == 17) = false := by simpa using h2
  have hn : (if tag = 16 ∨ tag = 17 then some s else none) = none := if_neg (fun h => h.elim h1 h2)
  go_enter Try.func43, Try.ntmps43
  go_wp2_with (first
   | ((with_reducible refine gate_dst (N := 3) rfl ?_)
      refine sp_box hS rfl (N := 3) rfl _ 34 zz1 ?_
      intro ge w1 hge hS
      obtain ⟨e0, e1, e2, e3, e4, e5, e6⟩ := hS.cells7 0
      obtain ⟨k0, k1⟩ := hS.cells2 1
      have kf := hS.fz 1))
  go_ret
  (try rw [hn])
  exact ⟨rfl, key none (.inr rfl) _ (Sp.sel (l2 := [blk g #[v, .bool false] 107, kx (some s) v]) hS.lt [1, 2])⟩
set_option maxHeartbeats 4000000 in
set_option maxRecDepth 100000 in
theorem look_leaf0 (g : Nat) (s : Cs) (at_ cl tag : Int) (cons : Bool) (ln b : Int) (hc : cl = 0) (w : World) (S : Nat → Prop) (h : Hs w S [ck g (some s)]) :
 Calls Try.prog 43 #[.pointer (some ⟨g, 0, none⟩), .agg #[.int .i64 2, .int .i64 at_, .int .i64 cl, .int .i64 tag, .bool cons, .int .i64 ln, .int .u8 b]] w fun e w' => e = .returned (.bool (startC tag ln).isSome) ∧ Sp w S [lk g (startC tag ln)] w' := by
 obtain ⟨v, hS⟩ := ck_open h
 have hu := Try.underlying34
 have hu2 := Try.underlying107
 subst hc
 clear h
 obtain ⟨s2, hs2⟩ : ∃ s2, startC tag ln = s2 := ⟨_, rfl⟩
 have HST := Aside0.mk (fun W => start_any 0 tag ln cons W)
 rw [hs2] at HST ⊢
 clear hs2
 rcases s2 with _ | s3
 ·
  go_enter Try.func43, Try.ntmps43
  go_wp2_with (first
   | ((with_reducible refine gate_dst (N := 3) rfl ?_)
      refine sp_box hS rfl (N := 3) rfl _ 34 zz1 ?_
      intro ge w1 hge hS
      obtain ⟨e0, e1, e2, e3, e4, e5, e6⟩ := hS.cells7 0
      obtain ⟨k0, k1⟩ := hS.cells2 1
      have kf := hS.fz 1)
   | (go_at_call 58
      (with_reducible refine (HST.out _).mono ?_)
      rintro e w3 ⟨v2, rfl, hq⟩
      replace hS := hS.post0 (hq.mo (fun _ h => h.elim))
      have hv2 : v2 = .nilFunc := hS.h.get 0 _ rfl
      subst hv2
      clear e0 e1 e2 e3 e4 e5 e6 k0 k1 kf
      obtain ⟨k0, k1⟩ := hS.cells2 2
      have kf := hS.fz 2))
  go_ret
  exact ⟨rfl, lk_none (Sp.sel (l2 := [blk g #[.nilFunc, .bool false] 107]) ((hS.set_ 2 0 _).lt) [2])⟩
 ·
  go_enter Try.func43, Try.ntmps43
  go_wp2_with (first
   | ((with_reducible refine gate_dst (N := 3) rfl ?_)
      refine sp_box hS rfl (N := 3) rfl _ 34 zz1 ?_
      intro ge w1 hge hS
      obtain ⟨e0, e1, e2, e3, e4, e5, e6⟩ := hS.cells7 0
      obtain ⟨k0, k1⟩ := hS.cells2 1
      have kf := hS.fz 1)
   | (go_at_call 58
      (with_reducible refine (HST.out _).mono ?_)
      rintro e w3 ⟨v2, rfl, hq⟩
      replace hS := hS.post0 (hq.mo (fun _ h => h.elim))
      obtain ⟨fn, cap, hv2⟩ := fn_nx (hS.h.get 0 _ rfl)
      subst hv2
      clear e0 e1 e2 e3 e4 e5 e6 k0 k1 kf
      obtain ⟨k0, k1⟩ := hS.cells2 2
      have kf := hS.fz 2))
  go_ret
  exact ⟨rfl, lk_shut (s := some s3) (Sp.sel (l2 := [blk g #[.func fn #[] cap, .bool false] 107, kx (some s3) _]) ((hS.set_ 2 0 _).lt) [2, 0])⟩
set_option maxHeartbeats 4000000 in
set_option maxRecDepth 100000 in
theorem look_leafx (g : Nat) (s : Cs) (at_ cl tag : Int) (cons : Bool) (ln b : Int) (hc : ¬ cl = 0) (w : World) (S : Nat → Prop) (h : Hs w S [ck g (some s)]) :
 Calls Try.prog 43 #[.pointer (some ⟨g, 0, none⟩), .agg #[.int .i64 2, .int .i64 at_, .int .i64 cl, .int .i64 tag, .bool cons, .int .i64 ln, .int .u8 b]] w fun e w' => e = .returned (.bool (some Cs.any).isSome) ∧ Sp w S [lk g (some Cs.any)] w' := by
 obtain ⟨v, hS⟩ := ck_open h
 have hu := Try.underlying34
 have hu2 := Try.underlying107
 have d1 : (cl == 0) = false := by simpa using hc
 clear h
 go_enter Try.func43, Try.ntmps43
 go_wp2_with (first
  | ((with_reducible refine gate_dst (N := 3) rfl ?_)
     refine sp_box hS rfl (N := 3) rfl _ 34 zz1 ?_
     intro ge w1 hge hS
     obtain ⟨e0, e1, e2, e3, e4, e5, e6⟩ := hS.cells7 0
     obtain ⟨k0, k1⟩ := hS.cells2 1
     have kf := hS.fz 1)
  | ((with_reducible refine gate_store (t := 105) (p := 69) (v := .func 42) rfl ?_)
     refine sp_cell hS 1 rfl 105 (.tmp 69) (.func 42) rfl rfl g 0 (.func (.func 42) #[] #[]) rfl rfl 107 _ _ rfl zz5 zz8 rfl rfl rfl ?_
     intro w4 hS))
 go_ret
 exact ⟨rfl, lk_shut (s := some .any) (v := .func (.func 42) #[] #[]) ((Sp.more (Sp.sel (l2 := [blk g #[.func (.func 42) #[] #[], .bool false] 107]) ((hS.set_ 1 0 _).lt) [1]) (a := kx (some .any) (.func (.func 42) #[] #[])) (Upd.refl _ _) rfl).swap)⟩
set_option maxHeartbeats 4000000 in
set_option maxRecDepth 100000 in
theorem look_rest (g : Nat) (s : Cs) (kd at_ cl tag : Int) (cons : Bool) (ln b : Int) (h3 : ¬ kd = 3) (h2 : ¬ kd = 2) (h1 : ¬ (kd = 1 ∧ cl = 0)) (w : World) (S : Nat → Prop) (h : Hs w S [ck g (some s)]) :
 Calls Try.prog 43 #[.pointer (some ⟨g, 0, none⟩), .agg #[.int .i64 kd, .int .i64 at_, .int .i64 cl, .int .i64 tag, .bool cons, .int .i64 ln, .int .u8 b]] w fun e w' => e = .returned (.bool (some s).isSome) ∧ Sp w S [lk g (some s)] w' := by
 obtain ⟨v, hS⟩ := ck_open h
 have hu := Try.underlying34
 have hu2 := Try.underlying107
 have d3 : (kd == 3) = false := by simpa using h3
 have d2 : (kd == 2) = false := by simpa using h2
 clear h
 by_cases hk : kd = 1
 ·
  subst hk
  have hc : ¬ cl = 0 := fun h => h1 ⟨rfl, h⟩
  have d1 : (cl == 0) = false := by simpa using hc
  go_enter Try.func43, Try.ntmps43
  go_wp2_with (first
   | ((with_reducible refine gate_dst (N := 3) rfl ?_)
      refine sp_box hS rfl (N := 3) rfl _ 34 zz1 ?_
      intro ge w1 hge hS
      obtain ⟨e0, e1, e2, e3, e4, e5, e6⟩ := hS.cells7 0
      obtain ⟨k0, k1⟩ := hS.cells2 1
      have kf := hS.fz 1))
  go_ret
  exact ⟨rfl, lk_shut (s := some s) (Sp.sel (l2 := [blk g #[v, .bool false] 107, kx (some s) v]) hS.lt [1, 2])⟩
 ·
  have d1 : (kd == 1) = false := by simpa using hk
  go_enter Try.func43, Try.ntmps43
  go_wp2_with (first
   | ((with_reducible refine gate_dst (N := 3) rfl ?_)
      refine sp_box hS rfl (N := 3) rfl _ 34 zz1 ?_
      intro ge w1 hge hS
      obtain ⟨e0, e1, e2, e3, e4, e5, e6⟩ := hS.cells7 0
      obtain ⟨k0, k1⟩ := hS.cells2 1
      have kf := hS.fz 1))
  go_ret
  exact ⟨rfl, lk_shut (s := some s) (Sp.sel (l2 := [blk g #[v, .bool false] 107, kx (some s) v]) hS.lt [1, 2])⟩
set_option maxRecDepth 100000 in
theorem look_ev (g : Nat) (s : Cs) (e : Ev) (r : Int) (hg : Good s r) (ho : okR r e) (w : World) (S : Nat → Prop) (h : Hs w S [ck g (some s)]) :
 Calls Try.prog 43 #[.pointer (some ⟨g, 0, none⟩), .agg #[.int .i64 e.f0, .int .i64 e.f1, .int .i64 e.f2.f0, .int .i64 e.f2.f1, .bool e.f2.f2, .int .i64 e.f2.f3, .int .u8 e.f3]] w fun e' w' => e' = .returned (.bool (lookC s e).isSome) ∧ Sp w S [lk g (lookC s e)] w' := by
 obtain ⟨kd, at_, ⟨cl, tag, cons, ln⟩, b⟩ := e
 obtain ⟨o1, o2, o3, o4⟩ := ho
 simp only at o1 o2 o3 o4 ⊢
 by_cases h3 : kd = 3
 ·
  subst h3
  have e1 : lookC s ⟨3, at_, ⟨cl, tag, cons, ln⟩, b⟩ = pushC s b := by unfold lookC; rw [if_pos rfl]
  rw [e1]
  have z2 := o2 rfl
  clear e1 o2 o3 o4
  cases s with
  | any => exact look_byte_any g at_ cl tag cons ln b w S h
  | num t n a f => exact look_byte_num g t n a f at_ cl tag cons ln b r hg z2 o1 w S h
  | oid l wi => exact look_byte_oid g l wi at_ cl tag cons ln b r hg z2 o1 w S h
  | bit l bg u => exact look_byte_bit g l bg u at_ cl tag cons ln b r hg z2 o1 w S h
  | whn u D l => exact look_byte_whn g u D l at_ cl tag cons ln b r hg z2 o1 w S h
  | txt t l m lo hi => exact look_byte_txt g t l m lo hi at_ cl tag cons ln b r hg z2 o1 w S h
 by_cases h1 : kd = 1 ∧ cl = 0
 ·
  obtain ⟨rfl, hc⟩ := h1
  have e1 : lookC s ⟨1, at_, ⟨cl, tag, cons, ln⟩, b⟩ = if tag = 16 ∨ tag = 17 then some s else none := by unfold lookC; rw [if_neg (by show ¬ (1 : Int) = 3; decide), if_pos ⟨rfl, hc⟩]
  rw [e1]
  exact look_enter g s at_ cl tag cons ln b hc w S h
 by_cases h2 : kd = 2
 ·
  subst h2
  by_cases hc : cl = 0
  ·
   have e1 : lookC s ⟨2, at_, ⟨cl, tag, cons, ln⟩, b⟩ = startC tag ln := by unfold lookC; rw [if_neg (by show ¬ (2 : Int) = 3; decide), if_neg (fun h => absurd (show (2 : Int) = 1 from h.1) zz8), if_pos ⟨rfl, hc⟩]
   rw [e1]
   exact look_leaf0 g s at_ cl tag cons ln b hc w S h
  ·
   have e1 : lookC s ⟨2, at_, ⟨cl, tag, cons, ln⟩, b⟩ = some .any := by unfold lookC; rw [if_neg (by show ¬ (2 : Int) = 3; decide), if_neg (fun h => absurd (show (2 : Int) = 1 from h.1) zz8), if_neg (fun h => hc h.2), if_pos rfl]
   rw [e1]
   exact look_leafx g s at_ cl tag cons ln b hc w S h
 ·
  have e1 : lookC s ⟨kd, at_, ⟨cl, tag, cons, ln⟩, b⟩ = some s := by unfold lookC; rw [if_neg h3, if_neg h1, if_neg (fun h => h2 h.1), if_neg h2]
  rw [e1]
  exact look_rest g s kd at_ cl tag cons ln b h3 h2 h1 w S h
set_option maxHeartbeats 4000000 in
set_option maxRecDepth 100000 in
theorem new_ck (w : World) : Calls Try.prog 24 #[] w fun e w' => ∃ g : Nat, e = .returned (.pointer (some ⟨g, 0, none⟩)) ∧ Sp w None0 [ck g (some .any)] w' := by
 have hS := Sp.nil (w := w) (S := None0)
 have hu := Try.underlying107
 go_enter Try.func24, Try.ntmps24
 go_wp2_with (first
  | ((with_reducible refine gate_dst (N := 2) rfl ?_)
     refine sp_box hS rfl (N := 2) rfl #[.func (.func 42) #[] #[], .bool false] 107 zz1 ?_
     intro g w1 hg hS))
 go_ret
 exact ⟨g, rfl, ck_shut (s := some .any) ((Sp.more (show Sp w None0 _ _ from hS.lt) (a := kx (some .any) (.func (.func 42) #[] #[])) (Upd.refl _ _) rfl).swap)⟩
set_option maxHeartbeats 4000000 in
set_option maxRecDepth 100000 in
theorem push_ev (g : Nat) (s : Cs) (e : Ev) (r : Int) (hg : Good s r) (ho : okR r e) (w : World) (S : Nat → Prop) (h : Hs w S [ck g (some s)]) :
 Calls Try.prog 25 #[.pointer (some ⟨g, 0, none⟩), .agg #[.int .i64 e.f0, .int .i64 e.f1, .int .i64 e.f2.f0, .int .i64 e.f2.f1, .bool e.f2.f2, .int .i64 e.f2.f3, .int .u8 e.f3]] w fun e' w' => e' = .returned (.int .i64 (if (lookC s e).isSome then 0 else 7)) ∧ Sp w S [ck g (lookC s e)] w' := by
 obtain ⟨v, hS⟩ := ck_open h
 have hu := Try.underlying34
 have hu2 := Try.underlying107
 have HL := Aside0.mk (fun W S' h => look_ev g s e r hg ho W S' h)
 obtain ⟨s2, hs2⟩ : ∃ s2, lookC s e = s2 := ⟨_, rfl⟩
 rw [hs2] at HL ⊢
 obtain ⟨⟨kd, at_, ⟨cl, tag, cons, n⟩, b⟩, he⟩ : ∃ q, e = q := ⟨_, rfl⟩
 rw [he] at HL ⊢
 simp only at HL ⊢
 clear h hg ho hs2 he
 have KC : ∀ {w' : World} {T : Nat → Prop} {l : List Ast}, Sp w T (blk g #[v, .bool false] 107 :: kx (some s) v :: l) w' → Sp w T (ck g (some s) :: l) w' := fun h => Sp.exI v (Sp.fold [_, _] h)
 rcases s2 with _ | s3
 all_goals
  go_enter Try.func25, Try.ntmps25
  go_upto_if 9 with (first
   | ((with_reducible refine gate_dst (N := 3) rfl ?_)
      refine sp_box hS rfl (N := 3) rfl _ 34 zz1 ?_
      intro ge w1 hge hS
      obtain ⟨k0, k1⟩ := hS.cells2 1
      obtain ⟨e0, e1, e2, e3, e4, e5, e6⟩ := hS.cells7 0))
  replace hS := KC (Sp.sel (l2 := [blk g #[v, .bool false] 107, kx (some s) v]) hS [1, 2])
  go_wp2_with (first
   | (go_at_call 43
      (with_reducible refine (HL.out _ (hS.ft 1) zz28).mono ?_)
      rintro e w3 ⟨rfl, hq⟩
      replace hS := hS.post1 hq
      obtain ⟨v3, hS⟩ := Sp.ex0 hS
      replace hS := hS.flat
      clear e0 e1 e2 e3 e4 e5 e6 k0 k1
      obtain ⟨k0, k1⟩ := hS.cells2 0
      have kf := hS.fz 0))
  go_ret
 ·
  exact ⟨rfl, ck_none (v := v3) (Sp.sel (l2 := [blk g #[v3, .bool true] 107]) ((hS.set_ 0 1 _).lt) [0])⟩
 ·
  exact ⟨rfl, ck_shut (s := some s3) (v := v3) (Sp.sel (l2 := [blk g #[v3, .bool false] 107, kx (some s3) v3]) ((hS.set_ 0 1 _).lt) [0, 1])⟩
end Go.Proofs.Ytcfommconnlhgaa.Vp
namespace Go.Proofs.Ytcfommconnlhgaa.Vp
open RowKit PC YtcfommconnlhgaaW.PrintWords YtcfommconnlhgaaW.PrintLast YtcfommconnlhgaaW.PrintMore Own Sl
open Bs
set_option linter.unusedVariables false
set_option linter.unusedSimpArgs false
theorem mostOf_le (d : Int) : (mn (mx d 0) 64).toNat ≤ 64 := by unfold mn mx; split <;> split <;> omega
theorem evs_len (d : Int) (l : List Int) (hl : Idm.Bytes l) : (wholeM (mn (mx d 0) 64).toNat l).1.length ≤ l.length * 67 := by
 have hm := mostOf_le d
 obtain ⟨most, he⟩ : ∃ m, (mn (mx d 0) 64).toNat = m := ⟨_, rfl⟩
 rw [he] at hm ⊢
 have h3 : l.length * (most + 3) ≤ l.length * 67 := Nat.mul_le_mul_left _ zz4
 unfold wholeM
 rcases run_split most l [] init0 0 [] hl (inv0 most) with ⟨s', xs, a1, a2, a3, a4, a5⟩ | ⟨xs, e2, j, a1, a2, a3, a4, a5, a6, a7⟩
 ·
  rw [show ((0 : Nat) : Int) = 0 from rfl] at a4
  rw [a4, List.nil_append]
  exact Nat.le_trans a3 h3
 ·
  rw [show ((0 : Nat) : Int) = 0 from rfl] at a6
  rw [a6, List.nil_append]
  exact Nat.le_trans a5 h3
theorem evs_wf (most : Nat) (l : List Int) (hl : Idm.Bytes l) : WfL 0 (wholeM most l).1 := by
 obtain ⟨xs, h1, h2⟩ := run_wf most l init0 0 [] hl (inv0 most)
 unfold wholeM
 rw [show (0 : Int) = ((0 : Nat) : Int) from rfl, h1, List.nil_append]
 exact h2
def Left (l : List Ev) (i : Nat) (s : Cs) : Prop := (∃ r, Good s r ∧ WfL r (l.drop i)) ∧ badE s (l.drop i) = badE .any l
theorem left0 {l : List Ev} (h : WfL 0 l) : Left l 0 .any := ⟨⟨0, trivial, h⟩, rfl⟩
end Go.Proofs.Ytcfommconnlhgaa.Vp
namespace Go.Proofs.Ytcfommconnlhgaa.Gm
open RowKit PC YtcfommconnlhgaaW.PrintWords YtcfommconnlhgaaW.PrintLast YtcfommconnlhgaaW.PrintMore Own Sl
open Bs Vp
set_option linter.unusedVariables false
set_option linter.unusedSimpArgs false
def LeftG (l : List Ev) (i : Nat) (c : Cs) (s : Gs) : Prop := (∃ r, Vp.Good c r ∧ WfL r (l.drop i)) ∧ (∃ d z, Okg s d ∧ d ≤ i ∧ WfD d z (l.drop i)) ∧ badG c s (l.drop i) = badG .any g0 l
theorem leftG0 {l : List Ev} (h : WfL 0 l) (h2 : WfD 0 false l) : LeftG l 0 .any g0 := ⟨⟨0, trivial, h⟩, ⟨0, false, okg0, Nat.le_refl _, h2⟩, rfl⟩
theorem leftG_step {l : List Ev} {i : Nat} {c : Cs} {s : Gs} (h : LeftG l i c s) {e : Ev} (he : l[i]? = some e) :
 (∃ r, Vp.Good c r ∧ okR r e) ∧ (∃ d z, Okg s d ∧ d ≤ i ∧ okD d z e) ∧ (lookC c e = none → badG .any g0 l = some (7, e.f1)) ∧
  ∀ c', lookC c e = some c' → ((lookG s e).2 = 0 → badG .any g0 l = some (8, e.f1)) ∧ ((lookG s e).2 ≠ 0 → LeftG l (i + 1) c' (lookG s e).1) := by
 obtain ⟨hi, he2⟩ := List.getElem?_eq_some_iff.1 he
 have hd : l.drop i = e :: l.drop (i + 1) := by rw [List.drop_eq_getElem_cons hi, he2]
 obtain ⟨⟨r, h1, h2⟩, ⟨d, z, h3, h4, h5⟩, h6⟩ := h
 rw [hd] at h2 h5 h6
 refine ⟨⟨r, h1, h2.1⟩, ⟨d, z, h3, h4, h5.1⟩, fun hn => ?_, fun c' hc => ⟨fun h0 => ?_, fun h0 => ?_⟩⟩
 ·
  rw [← h6]; unfold badG; rw [hn]
 ·
  rw [← h6]; unfold badG; rw [hc]; simp only; rw [if_pos h0]
 ·
  refine ⟨⟨_, good_look h1 h2.1 hc, h2.2⟩, ⟨_, _, look_ok h3 h5.1 h0, ?_, h5.2⟩, ?_⟩
  ·
   unfold nextD; split; omega; split <;> omega
  ·
   rw [← h6]; conv => rhs; unfold badG
   rw [hc]; simp only; rw [if_neg h0]
theorem leftG_end {l : List Ev} {i : Nat} {c : Cs} {s : Gs} (h : LeftG l i c s) (hi : l.length ≤ i) : badG .any g0 l = none := by
 rw [← h.2.2, List.drop_eq_nil_of_le hi]; rfl
set_option maxHeartbeats 4000000 in
set_option maxRecDepth 100000 in
theorem gwhole_any (a : ByteArray) (d : Int) (w : World) (hs : a.size ≤ 700) :
 Calls Try.prog 13 #[.string a, .int .i64 d] w fun e w' => e = .returned (.tuple #[.int .i64 (wholeG (mn (mx d 0) 64).toNat (bytesOf a)).1, .int .i64 (wholeG (mn (mx d 0) 64).toNat (bytesOf a)).2]) ∧ Upd None0 w w' := by
 have hby : Idm.Bytes (bytesOf a) := bytes_of a
 have hlen := evs_len d (bytesOf a) hby
 have hwf := evs_wf (mn (mx d 0) 64).toNat (bytesOf a) hby
 have hwd := evs_wfD (mn (mx d 0) 64).toNat (bytesOf a) hby
 rw [bytesOf_length] at hlen
 obtain ⟨⟨l, me, mat⟩, hw⟩ : ∃ q, wholeM (mn (mx d 0) 64).toNat (bytesOf a) = q := ⟨_, rfl⟩
 have HEV := Aside0.mk (event_Whole.calls a d l me mat w (by unfold event_Whole.f; rw [if_pos hs, hw]))
 rw [hw] at hlen hwf hwd
 simp only at hlen hwf hwd
 have HV := Aside0.mk (show wholeG (mn (mx d 0) 64).toNat (bytesOf a) = (badG .any g0 l).elim (me, mat) id by unfold wholeG; simp only [hw]; cases badG .any g0 l <;> rfl)
 obtain ⟨⟨ve, vat⟩, hv⟩ : ∃ q, wholeG (mn (mx d 0) 64).toNat (bytesOf a) = q := ⟨_, rfl⟩
 rw [hv] at HV ⊢
 simp only
 have HL := Aside0.mk (show l.length ≤ 50000 by omega)
 have HLF := Aside0.mk (leftG0 hwf hwd)
 have hu := Try.underlying34
 have hS0 := Sp.nil (w := w) (S := None0)
 clear hby hlen hwf hwd hw hv hs
 go_enter Try.func13, Try.ntmps13
 go_wp2_with (first
  | (go_at_call 23
     (with_reducible refine HEV.out.mono ?_)
     rintro e w1 ⟨v0, rfl, hR, hb⟩
     obtain ⟨A, c, rfl⟩ := Kd.R_slice hR
     have HC := Aside0.mk (Kd.R_reads' hR).2.2
     replace hS0 := hS0.toN (Upd.of_below hb : Upd None0 _ w1)
     clear hR hb)
  | (go_at_call 24
     (with_reducible refine (new_ck _).mono ?_)
     rintro e w2 ⟨g, rfl, hS⟩)
  | (go_at_call 6
     (with_reducible refine (gnew_any _).mono ?_)
     rintro e w3 ⟨gg, rfl, hq⟩
     replace hS := Sp.swap (hS.post0 (hq.mo (fun _ h => h.elim)))))
 obtain ⟨n, hln⟩ : ∃ n, l.length = n := ⟨_, rfl⟩
 have HLN := Aside0.mk hln
 rw [hln] at HC HL ⊢
 clear hln HEV
 go_loopg [27] n (fun gk_ v27 wr => ∃ (i : Nat) (c : Cs) (s : Gs), v27 = .int .i64 (i : Int) ∧ Aside0 (i ≤ n ∧ n - i ≤ gk_ ∧ LeftG l i c s) ∧ Aside0 (Sp w1 None0 [ck g (some c), gk gg (some s)] wr))
 case atStart => exact ⟨0, .any, g0, rfl, ⟨Nat.zero_le _, zz4, HLF.out⟩, ⟨hS⟩⟩
 case round =>
  clear hS
  obtain ⟨i, cs, s, rfl, HI, HS⟩ := hrel
  have hS := HS.out
  clear HS
  have hi0 : (0 : Int) ≤ (i : Int) := by omega
  have hi1 : (i : Int) ≤ 50000 := by have := HI.out; have := HL.out; omega
  by_cases hlt : i < n
  case neg =>
   have hd : decide (i < n) = false := decide_eq_false hlt
   have HE := Aside0.mk (show me = ve ∧ mat = vat by
    have h1 := leftG_end HI.out.2.2 (by have := HLN.out; omega)
    have h2 := HV.out
    rw [h1] at h2
    simp only [Option.elim, Prod.mk.injEq] at h2
    exact ⟨h2.1.symm, h2.2.symm⟩)
   clear hlt HI
   go_wp2
   go_ret2
   rw [HE.out.1, HE.out.2]
   exact ⟨rfl, hS0.u.trans hS.u (fun _ h => h.elim)⟩
  have hd : decide (i < n) = true := decide_eq_true hlt
  have hli : i < l.length := by rw [HLN.out]; exact hlt
  obtain ⟨ad, rfl, h0, h1, h2, h3, h4, h5, h6⟩ := at_T34 HC.out (i : Int) hi0 zz4
  replace h0 := up_cell hS.u h0
  replace h1 := up_cell hS.u h1
  replace h2 := up_cell hS.u h2
  replace h3 := up_cell hS.u h3
  replace h4 := up_cell hS.u h4
  replace h5 := up_cell hS.u h5
  replace h6 := up_cell hS.u h6
  rw [Int.toNat_natCast] at h0 h1 h2 h3 h4 h5 h6
  obtain ⟨e, he⟩ : ∃ e, rd_T34 l (i : Int) = e := ⟨_, rfl⟩
  have hle : l[i]? = some e := by rw [← he, rd_drop l i hli]; exact List.getElem?_eq_getElem hli
  rw [he] at h0 h1 h2 h3 h4 h5 h6
  obtain ⟨⟨r, hg, ho⟩, ⟨dd, z, hgg, hdi, hod⟩, hn, hsx⟩ := leftG_step HI.out.2.2 hle
  have HPU := Aside0.mk (fun W S h => push_ev g cs e r hg ho W S h)
  have HPG := Aside0.mk (fun W S h => gpush_ev gg s dd z e hgg zz4 hod W S h)
  have HN := Aside0.mk hn
  have HSX := Aside0.mk hsx
  have HLT := Aside0.mk hlt
  unfold nextS at HPG
  obtain ⟨⟨kd, at_, ⟨cl, tag, cons, ln⟩, b⟩, hq⟩ : ∃ q, e = q := ⟨_, rfl⟩
  rw [hq] at HPU HPG HN HSX h0 h1 h2 h3 h4 h5 h6
  simp only at HPU HPG h0 h1 h2 h3 h4 h5 h6
  obtain ⟨s2, hs2⟩ : ∃ s2, lookC cs ⟨kd, at_, ⟨cl, tag, cons, ln⟩, b⟩ = s2 := ⟨_, rfl⟩
  rw [hs2] at HPU HN HSX
  obtain ⟨⟨t2, p⟩, ht2⟩ : ∃ t2, lookG s ⟨kd, at_, ⟨cl, tag, cons, ln⟩, b⟩ = t2 := ⟨_, rfl⟩
  rw [ht2] at HPG HSX
  simp only at HPG HSX
  have hin : (i : Int) < (n : Int) := by omega
  clear hq he hle hg ho hn hsx hlt hli hs2 ht2 hgg hdi hod
  have hcase : (s2 = none) ∨ (∃ s3, s2 = some s3 ∧ p = 0) ∨ (∃ s3, s2 = some s3 ∧ ¬ p = 0) := by
   cases s2 with
   | none => exact .inl rfl
   | some s3 => by_cases h : p = 0; exact .inr (.inl ⟨s3, rfl, h⟩); exact .inr (.inr ⟨s3, rfl, h⟩)
  rcases hcase with rfl | ⟨s3, rfl, hp⟩ | ⟨s3, rfl, hp⟩
  all_goals
   first | (rw [if_pos hp, if_pos hp] at HPG; have HP := Aside0.mk hp; clear hp) | (rw [if_neg hp, if_neg hp] at HPG; have HP := Aside0.mk hp; clear hp) | skip
   go_wp2_with (first
    | ((with_reducible refine gate_dst (N := 12) rfl ?_)
       refine sp_box hS rfl (N := 12) rfl #[.int .i64 0, .int .i64 0, .int .i64 0, .int .i64 0, .bool false, .int .i64 0, .int .u8 0] 34 zz1 ?_
       intro gx w3 hg3 hS)
    | ((with_reducible refine gate_store (t := 34) (p := 12) (v := .tmp 30) rfl ?_)
       refine sp_row hS 0 rfl 34 (.tmp 12) (.tmp 30) rfl rfl gx #[.int .i64 kd, .int .i64 at_, .int .i64 cl, .int .i64 tag, .bool cons, .int .i64 ln, .int .u8 b] rfl rfl 34 _ rfl zz5 rfl zz16 rfl ?_
       intro w4 hS
       obtain ⟨k0, k1, k2, k3, k4, k5, k6⟩ := hS.cells7 0
       replace hS := Sp.swap hS)
    | (go_at_call 25
       (with_reducible refine (HPU.out _ (hS.ft 1) zz28).mono ?_)
       rintro e w6 ⟨rfl, hq⟩
       replace hS := hS.post1 hq
       clear k0 k1 k2 k3 k4 k5 k6
       obtain ⟨k0, k1, k2, k3, k4, k5, k6⟩ := hS.cells7 1)
    | (go_at_call 10
       replace hS := Sp.sel (l2 := [Gm.gk gg (some s), ck g _, blk gx #[.int .i64 kd, .int .i64 at_, .int .i64 cl, .int .i64 tag, .bool cons, .int .i64 ln, .int .u8 b] 34]) hS [2, 0, 1]
       (with_reducible refine (HPG.out _ (hS.ft 1) zz28).mono ?_)
       rintro e w7 ⟨rfl, hq⟩
       replace hS := hS.post1 hq
       clear k0 k1 k2 k3 k4 k5 k6
       obtain ⟨k0, k1, k2, k3, k4, k5, k6⟩ := hS.cells7 2))
  ·
   go_region
   go_wp2
   go_ret2
   have h2 := HV.out
   have h3 := HN.out
   simp only [true_implies, forall_const] at h3
   rw [h3] at h2
   simp only [Option.elim, id, Prod.mk.injEq] at h2
   rw [h2.1, h2.2]
   exact ⟨rfl, Upd.trans (S := None0) (T := None0) hS0.u (Sp.u zz25) (fun _ h => False.elim h)⟩
  ·
   go_region
   go_wp2
   go_ret2
   have h2 := HV.out
   have h3 := (HSX.out s3 rfl).1 HP.out
   rw [h3] at h2
   simp only [Option.elim, id, Prod.mk.injEq] at h2
   rw [h2.1, h2.2]
   exact ⟨rfl, Upd.trans (S := None0) (T := None0) hS0.u (Sp.u zz25) (fun _ h => False.elim h)⟩
  ·
   go_roundg (gk - 1)
   case measure => have := HI.out; have := HLT.out; omega
   case rel => exact ⟨i + 1, s3, t2, zz19, ⟨by have := HLT.out; omega, by have := HI.out; have := HLT.out; omega, (HSX.out s3 rfl).2 HP.out⟩, ⟨Sp.sel (l2 := [ck g (some s3), Gm.gk gg (some t2)]) hS.lt [1, 0]⟩⟩
end Go.Proofs.Ytcfommconnlhgaa.Gm
