/- What the row of GrammarFront stands on, made small by a program of this session (pack.py). -/
import Derived.Test.YtcfommconnlhgaaCGrammarFront2
import Derived.Test.YtcfommconnlhgaaCGrammarFront15
namespace Go.Proofs.Ytcfommconnlhgaa.PC
open RowKit YtcfommconnlhgaaW.PrintWords YtcfommconnlhgaaW.PrintLast YtcfommconnlhgaaW.PrintMore
attribute [local go_sem] max2_int min2_int max_two min_two max_three min_three max_four min_four
set_option linter.unusedVariables false
set_option linter.unusedSimpArgs false
open Own
set_option maxHeartbeats 8000000 in
set_option maxRecDepth 100000 in
theorem mach_stepA (g most : Nat) (s : St) (b : Int) (S : Nat → Prop) (w : World) (rc : List Int) (ro : Int) (hM : Mc w S g most s rc ro) (hl0 : 0 < s.leaf) (hl1 : s.leaf ≤ 2305843009213693951) :
 Calls Try.prog 55 #[.pointer (some ⟨g, 0, none⟩), .int .u8 b] w fun e w' => ∃ v, e = .returned (.tuple #[v, .int .i64 0]) ∧ k34.R 34 w' 0 (New w None0) v ((contentM s b).2 : List Ev) ∧ Mc w' (New w S) g most (contentM s b).1 rc ro ∧ Upd S w w' := by
 have HM := Aside0.mk hM
 obtain ⟨gs, gr, v, hb, _⟩ := hM.blk
 have hc3 : w.cell? ⟨g, 3, none⟩ = some (.int .i64 s.leaf) := (blk_cell hb 3).trans rfl
 have hd3 : decide (0 < s.leaf) = true := decide_eq_true hl0
 have HL0 := Aside0.mk hl0
 have HL1 := Aside0.mk hl1
 clear hb hM hl0 hl1
 go_enter Try.func55, Try.ntmps55
 go_wp2_with (first
  | (go_at_call 70
     (with_reducible refine (mach_content g most s b S w rc ro HM.out HL0.out HL1.out).mono ?_)
     rintro e w1 ⟨v1, rfl, h1, h2, h3⟩
     have Q1 := Aside0.mk h1
     have Q2 := Aside0.mk h2
     have Q3 := Aside0.mk h3
     clear h1 h2 h3))
 go_ret2
 exact ⟨_, rfl, Q1.out, Q2.out, Q3.out⟩
set_option maxHeartbeats 8000000 in
set_option maxRecDepth 100000 in
theorem mach_stepT (k : Nat) (g most : Nat) (left l2 came came2 : List Int) (leaf at_ : Int) (begun : Bool) (over b e2 t1 t2 : Int) (t3 : Bool) (t4 t5 t6 : Int) (S : Nat → Prop) (w : World) (hM : Mc w S g most ⟨left, came, leaf, at_, begun, over⟩ came 0) (hl : leaf = 0) (he : Mxm.tk left = (l2, e2)) (hz : e2 ≠ 0) :
 Calls Try.prog 55 #[.pointer (some ⟨g, 0, none⟩), .int .u8 b] w fun e w' => ∃ v, e = .returned (.tuple #[v, .int .i64 e2]) ∧ k34.R 34 w' 0 (New w None0) v ([] : List Ev) ∧ Mc w' (New w S) g most ⟨l2, came, leaf, at_, begun, over⟩ came 0 ∧ Upd S w w' := by
 obtain ⟨gs, gr, v, S2, S3, hg, hb0, hk0, hr0, hc0, h2, h3, h23⟩ := hM
 obtain ⟨A0, c0, rfl⟩ := Kd.R_slice hc0
 have HU := Aside0.mk (Upd.refl S w)
 have IN_G := Aside0.mk hg
 have B_G := Aside0.mk hb0
 have P_K := Aside0.mk hk0
 have P_R := Aside0.mk hr0.old
 have R_C := Aside0.mk hc0
 have H2 := Aside0.mk h2
 have H3 := Aside0.mk h3
 have H23 := Aside0.mk h23
 have hu_ := Try.underlying32
 have hu2_ := Try.underlying34
 clear hg hb0 hk0 hr0 hc0 h2 h3 h23
 subst hl
 have SZ0 := Aside0.mk (Nat.le_refl w.heap.size)
 have HE := Aside0.mk he
 have c1 : (e2 != 0) = true := bne_iff_ne.2 hz
 clear he hz
 have hc_G_0 := co B_G 0 (.pointer (some ⟨gs, 0, none⟩)) rfl; have hc_G_1 := co B_G 1 (.pointer (some ⟨gr, 0, none⟩)) rfl; have hc_G_2 := co B_G 2 (.slice A0 came.length c0) rfl; have hc_G_3 := co B_G 3 (.int .i64 0) rfl; have hc_G_4 := co B_G 4 (.int .i64 at_) rfl; have hc_G_5 := co B_G 5 (.bool begun) rfl; have hc_G_6 := co B_G 6 (.int .i64 over) rfl
 go_enter Try.func55, Try.ntmps55
 go_wp2_with (first
  | (go_at_call 71
     (with_reducible refine (stack_takeE gs most left l2 e2 _ _ (Sk.bnd zz11) HE.out).mono ?_)
     rintro e w1 ⟨rfl, hs, hu⟩
     have hs2 := hs.mono Bnd.of
     replace B_G := Aside0.mk (hu.blk zz3 (Bnd.ne zz3 zz8))
     replace R_C := Aside0.mk (row_mono (row_upd (Bnd.row zz15 (E := 5 :: (Kd.int .u8).E) (fun _ h => h)) hu (fun k h1 h2 => bnd_apart zz8 h1 h2)) Bnd.of)
     replace P_R := Aside0.mk (Rd.updB zz13 hu zz8)
     replace HU := Aside0.mk ((zz7 : Upd S w _).trans hu (fun k hk => .inl hk.1))
     clear hu
     clear P_K hs; have P_K := Aside0.mk hs2; clear hs2
     (try clear hc_G_0 hc_G_1 hc_G_2 hc_G_3 hc_G_4 hc_G_5 hc_G_6)
     have hc_G_0 := co B_G 0 (.pointer (some ⟨gs, 0, none⟩)) rfl; have hc_G_1 := co B_G 1 (.pointer (some ⟨gr, 0, none⟩)) rfl; have hc_G_2 := co B_G 2 (.slice A0 came.length c0) rfl; have hc_G_3 := co B_G 3 (.int .i64 0) rfl; have hc_G_4 := co B_G 4 (.int .i64 at_) rfl; have hc_G_5 := co B_G 5 (.bool begun) rfl; have hc_G_6 := co B_G 6 (.int .i64 over) rfl))
 go_ret2
 exact ⟨_, rfl, Kd.R_nil _ _ _ _ _, ⟨gs, gr, _, (fun k => S2 k ∧ k < w.heap.size), S3, .inl IN_G.out, zz3, Sk.mono zz11 (fun k h => .inl h), zz13, zz15, fun k h => .inl (H2.out k h.1), fun k h => .inl (H3.out k h), fun k h h' => H23.out k h.1 h'⟩, zz7⟩
set_option maxHeartbeats 8000000 in
set_option maxRecDepth 100000 in
theorem mach_stepCut (k : Nat) (g most : Nat) (left l2 came came2 : List Int) (leaf at_ : Int) (begun : Bool) (over b e2 t1 t2 : Int) (t3 : Bool) (t4 t5 t6 : Int) (S : Nat → Prop) (w : World) (hM : Mc w S g most ⟨left, came, leaf, at_, begun, over⟩ came 0) (hl : leaf = 0) (he : Mxm.tk left = (l2, 0)) (hx : came ++ [b] = came2) (hcl : came.length ≤ 1000) (hg : head_Get.f k (strOfNums came2) 0 = some (t1, t2, t3, t4, t5, 2)) :
 Calls Try.prog 55 #[.pointer (some ⟨g, 0, none⟩), .int .u8 b] w fun e w' => ∃ v, e = .returned (.tuple #[v, .int .i64 0]) ∧ k34.R 34 w' 0 (New w None0) v ([] : List Ev) ∧ Mc w' (New w S) g most ⟨l2, came2, leaf, at_, begun, over⟩ came2 0 ∧ Upd S w w' := by
 obtain ⟨gs, gr, v, S2, S3, hg, hb0, hk0, hr0, hc0, h2, h3, h23⟩ := hM
 obtain ⟨A0, c0, rfl⟩ := Kd.R_slice hc0
 have HU := Aside0.mk (Upd.refl S w)
 have IN_G := Aside0.mk hg
 have B_G := Aside0.mk hb0
 have P_K := Aside0.mk hk0
 have P_R := Aside0.mk hr0.old
 have R_C := Aside0.mk hc0
 have H2 := Aside0.mk h2
 have H3 := Aside0.mk h3
 have H23 := Aside0.mk h23
 have hu_ := Try.underlying32
 have hu2_ := Try.underlying34
 clear hg hb0 hk0 hr0 hc0 h2 h3 h23
 subst hl
 have SZ0 := Aside0.mk (Nat.le_refl w.heap.size)
 have HE := Aside0.mk he
 have HX := Aside0.mk hx
 have HCL := Aside0.mk (show came.length ≤ 100000 by omega)
 have HG := Aside0.mk hg
 clear he hx hcl hg
 have hc_G_0 := co B_G 0 (.pointer (some ⟨gs, 0, none⟩)) rfl; have hc_G_1 := co B_G 1 (.pointer (some ⟨gr, 0, none⟩)) rfl; have hc_G_2 := co B_G 2 (.slice A0 came.length c0) rfl; have hc_G_3 := co B_G 3 (.int .i64 0) rfl; have hc_G_4 := co B_G 4 (.int .i64 at_) rfl; have hc_G_5 := co B_G 5 (.bool begun) rfl; have hc_G_6 := co B_G 6 (.int .i64 over) rfl
 go_enter Try.func55, Try.ntmps55
 go_wp2_with (first
  | (go_at_call 71
     (with_reducible refine (stack_takeE gs most left l2 0 _ _ (Sk.bnd zz11) HE.out).mono ?_)
     rintro e w1 ⟨rfl, hs, hu⟩
     have hs2 := hs.mono Bnd.of
     replace B_G := Aside0.mk (hu.blk zz3 (Bnd.ne zz3 zz8))
     replace R_C := Aside0.mk (row_mono (row_upd (Bnd.row zz15 (E := 5 :: (Kd.int .u8).E) (fun _ h => h)) hu (fun k h1 h2 => bnd_apart zz8 h1 h2)) Bnd.of)
     replace P_R := Aside0.mk (Rd.updB zz13 hu zz8)
     replace HU := Aside0.mk ((zz7 : Upd S w _).trans hu (fun k hk => .inl hk.1))
     clear hu
     clear P_K hs; have P_K := Aside0.mk hs2; clear hs2
     (try clear hc_G_0 hc_G_1 hc_G_2 hc_G_3 hc_G_4 hc_G_5 hc_G_6)
     have hc_G_0 := co B_G 0 (.pointer (some ⟨gs, 0, none⟩)) rfl; have hc_G_1 := co B_G 1 (.pointer (some ⟨gr, 0, none⟩)) rfl; have hc_G_2 := co B_G 2 (.slice A0 came.length c0) rfl; have hc_G_3 := co B_G 3 (.int .i64 0) rfl; have hc_G_4 := co B_G 4 (.int .i64 at_) rfl; have hc_G_5 := co B_G 5 (.bool begun) rfl; have hc_G_6 := co B_G 6 (.int .i64 over) rfl)
  | ((with_reducible refine gate_builtin (b := .append) (xs := #[.tmp 30, .tmp 32]) rfl ?_); at_builtin
     refine row_append (Kd.int .u8) (S := S3) rfl (.tmp 30) (.tmp 32) 124 5 (.int .u8 0) 1 rfl Try.underlying124 infoU8 rfl zz8 zz4 (.slice A0 came.length c0) (came) (b) [.int .u8 b] rfl rfl ?aP ?aO ?aL came2 HX.out ?_
     (case aP => exact rfl); (case aO => exact zz15); (case aL => (have := HCL.out; omega))
     intro v2 w2 ho hu
     have SZ1 := Aside0.mk HU.out.size
     have ho2 := row_mono ho (fun k h => h)
     replace B_G := Aside0.mk (hu.blk zz3 (Kd.R_ne R_C.out zz3 zz8))
     replace P_K := Aside0.mk (Sk.updR zz11 R_C.out zz8 hu)
     replace P_R := Aside0.mk (P_R.out.upd hu (fun k h e => H23.out k h.1 (row_at R_C.out e)))
     replace HU := Aside0.mk ((zz7 : Upd S w _).trans hu (fun k hk => .inl (H3.out k (row_at R_C.out hk))))
     clear hu
     obtain ⟨A_C2, c_C2, rfl⟩ := Kd.R_slice ho2
     clear R_C ho; have R_C := Aside0.mk ho2; clear ho2
     (try clear hc_G_0 hc_G_1 hc_G_2 hc_G_3 hc_G_4 hc_G_5 hc_G_6)
     have hc_G_0 := co B_G 0 (.pointer (some ⟨gs, 0, none⟩)) rfl; have hc_G_1 := co B_G 1 (.pointer (some ⟨gr, 0, none⟩)) rfl; have hc_G_2 := co B_G 2 (.slice A0 came.length c0) rfl; have hc_G_3 := co B_G 3 (.int .i64 0) rfl; have hc_G_4 := co B_G 4 (.int .i64 at_) rfl; have hc_G_5 := co B_G 5 (.bool begun) rfl; have hc_G_6 := co B_G 6 (.int .i64 over) rfl)
  | ((with_reducible refine gate_store (t := 124) (p := 35) (v := .tmp 33) rfl ?_)
     refine cellput rfl 124 (.tmp 35) (.tmp 33) rfl rfl g 2 (.slice A_C2 came2.length c_C2) rfl rfl 126 #[.pointer (some ⟨gs, 0, none⟩), .pointer (some ⟨gr, 0, none⟩), .slice A0 came.length c0, .int .i64 0, .int .i64 at_, .bool begun, .int .i64 over] #[.pointer (some ⟨gs, 0, none⟩), .pointer (some ⟨gr, 0, none⟩), .slice A_C2 came2.length c_C2, .int .i64 0, .int .i64 at_, .bool begun, .int .i64 over] zz3 zz5 zz19 rfl rfl ?_
     intro w3 hbox hu
     replace R_C := Aside0.mk (row_updT zz15 zz3 zz8 hu)
     replace P_K := Aside0.mk (Sk.updT zz11 zz3 zz8 hu)
     replace P_R := Aside0.mk (Rd.updT zz13 zz3 zz8 hu)
     replace HU := Aside0.mk ((zz7 : Upd S w _).trans hu (fun k hk => .inl zz22))
     clear hu
     clear B_G; have B_G := Aside0.mk hbox; clear hbox
     (try clear hc_G_0 hc_G_1 hc_G_2 hc_G_3 hc_G_4 hc_G_5 hc_G_6)
     have hc_G_0 := co B_G 0 (.pointer (some ⟨gs, 0, none⟩)) rfl; have hc_G_1 := co B_G 1 (.pointer (some ⟨gr, 0, none⟩)) rfl; have hc_G_2 := co B_G 2 (.slice A_C2 came2.length c_C2) rfl; have hc_G_3 := co B_G 3 (.int .i64 0) rfl; have hc_G_4 := co B_G 4 (.int .i64 at_) rfl; have hc_G_5 := co B_G 5 (.bool begun) rfl; have hc_G_6 := co B_G 6 (.int .i64 over) rfl)
  | (go_at_call 72
     (with_reducible refine (reader_cut k gr came came2 b t1 t2 t3 t4 t5 0 _ _ P_R.out.bnd HCL.out HX.out HG.out).mono ?_)
     rintro e w4 ⟨rfl, hs, hu⟩
     have SZ2 := Aside0.mk HU.out.size
     replace B_G := Aside0.mk (hu.blk zz3 (Bnd.ne B_G.out zz8))
     replace R_C := Aside0.mk (row_upd (row_old R_C.out) hu (fun k h3 h2 => h2.1.elim (fun a b => h3.1.elim (H23.out k a) (fun q => by have := SZ1.out; omega))))
     replace P_K := Aside0.mk (P_K.out.updB hu zz8)
     replace HU := Aside0.mk ((zz7 : Upd S w _).trans hu (fun k h => .inl (H2.out k h.1.1)))
     clear hu
     clear P_R; have P_R := Aside0.mk hs; clear hs
     (try clear hc_G_0 hc_G_1 hc_G_2 hc_G_3 hc_G_4 hc_G_5 hc_G_6)
     have hc_G_0 := co B_G 0 (.pointer (some ⟨gs, 0, none⟩)) rfl; have hc_G_1 := co B_G 1 (.pointer (some ⟨gr, 0, none⟩)) rfl; have hc_G_2 := co B_G 2 (.slice A_C2 came2.length c_C2) rfl; have hc_G_3 := co B_G 3 (.int .i64 0) rfl; have hc_G_4 := co B_G 4 (.int .i64 at_) rfl; have hc_G_5 := co B_G 5 (.bool begun) rfl; have hc_G_6 := co B_G 6 (.int .i64 over) rfl)
  | ((with_reducible refine gate_dst (N := 7) rfl ?_)
     refine boxnew ?hg (N := 7) ?hd (cs := #[.int .i64 0, .int .i64 0, .bool false, .int .i64 0]) (t := 32) ?hr ?_; (case hd => rfl); (case hg => rfl); (case hr => first | (go_simp; done) | (go_simp; rfl))
     intro g_H hge w5 hbox hu
     have NE_G_H := Aside0.mk (blk_fresh zz3 hge)
     have GE_H := Aside0.mk (Nat.le_trans (zz7 : Upd S w _).size hge)
     replace B_G := Aside0.mk (hu.blk zz3 (fun h => h))
     replace R_C := Aside0.mk (row_upd zz15 hu (fun k hk h => h.elim))
     replace P_K := Aside0.mk (Sk.updN zz11 hu)
     replace P_R := Aside0.mk (Rd.updN zz13 hu)
     replace HU := Aside0.mk ((zz7 : Upd S w _).trans hu (fun _ h => h.elim))
     clear hu
     have B_H := Aside0.mk hbox; clear hbox hge
     (try clear hc_G_0 hc_G_1 hc_G_2 hc_G_3 hc_G_4 hc_G_5 hc_G_6)
     have hc_G_0 := co B_G 0 (.pointer (some ⟨gs, 0, none⟩)) rfl; have hc_G_1 := co B_G 1 (.pointer (some ⟨gr, 0, none⟩)) rfl; have hc_G_2 := co B_G 2 (.slice A_C2 came2.length c_C2) rfl; have hc_G_3 := co B_G 3 (.int .i64 0) rfl; have hc_G_4 := co B_G 4 (.int .i64 at_) rfl; have hc_G_5 := co B_G 5 (.bool begun) rfl; have hc_G_6 := co B_G 6 (.int .i64 over) rfl; have hc_H_0 := co B_H 0 (.int .i64 0) rfl; have hc_H_1 := co B_H 1 (.int .i64 0) rfl; have hc_H_2 := co B_H 2 (.bool false) rfl; have hc_H_3 := co B_H 3 (.int .i64 0) rfl)
  | ((with_reducible refine gate_store (t := 32) (p := 7) (v := .tmp 43) rfl ?_)
     refine rowput rfl 32 (.tmp 7) (.tmp 43) rfl rfl g_H #[.int .i64 0, .int .i64 0, .bool false, .int .i64 0] rfl rfl 32 #[.int .i64 0, .int .i64 0, .bool false, .int .i64 0] zz18 zz5 rfl zz16 ?_
     intro w6 hbox hu
     replace B_G := Aside0.mk (hu.blk zz3 NE_G_H.out)
     replace R_C := Aside0.mk (row_updT zz15 zz18 zz8 hu)
     replace P_K := Aside0.mk (Sk.updT zz11 zz18 zz8 hu)
     replace P_R := Aside0.mk (Rd.updT zz13 zz18 zz8 hu)
     replace HU := Aside0.mk ((zz7 : Upd S w _).trans hu (fun k hk => .inr zz30))
     clear hu
     clear B_H; have B_H := Aside0.mk hbox; clear hbox
     (try clear hc_G_0 hc_G_1 hc_G_2 hc_G_3 hc_G_4 hc_G_5 hc_G_6 hc_H_0 hc_H_1 hc_H_2 hc_H_3)
     have hc_G_0 := co B_G 0 (.pointer (some ⟨gs, 0, none⟩)) rfl; have hc_G_1 := co B_G 1 (.pointer (some ⟨gr, 0, none⟩)) rfl; have hc_G_2 := co B_G 2 (.slice A_C2 came2.length c_C2) rfl; have hc_G_3 := co B_G 3 (.int .i64 0) rfl; have hc_G_4 := co B_G 4 (.int .i64 at_) rfl; have hc_G_5 := co B_G 5 (.bool begun) rfl; have hc_G_6 := co B_G 6 (.int .i64 over) rfl; have hc_H_0 := co B_H 0 (.int .i64 0) rfl; have hc_H_1 := co B_H 1 (.int .i64 0) rfl; have hc_H_2 := co B_H 2 (.bool false) rfl; have hc_H_3 := co B_H 3 (.int .i64 0) rfl))
 go_ret2
 exact ⟨_, rfl, Kd.R_nil _ _ _ _ _, ⟨gs, gr, _, (New w3 (Bnd w3 [143, 5] (fun k => S2 k ∧ k < w.heap.size))), (fun k => New w1 S3 k ∧ k < w3.heap.size), .inl IN_G.out, zz3, Sk.mono zz11 (fun k h => .inl h), zz13, zz15, fun k h => h.elim (fun h => .inl (H2.out k h.1.1)) (fun h => .inr (Nat.le_trans SZ2.out h)), fun k h => h.1.elim (fun h => .inl (H3.out k h)) (fun h => .inr (Nat.le_trans SZ1.out h)), fun k h h' => h.elim (fun h => h'.1.elim (H23.out k h.1.1) (fun q => by have := SZ1.out; have := h.1.2; omega)) (fun h => by have := h'.2; omega)⟩, zz7⟩
set_option maxHeartbeats 8000000 in
set_option maxRecDepth 100000 in
theorem mach_stepErr (k : Nat) (g most : Nat) (left l2 came came2 : List Int) (leaf at_ : Int) (begun : Bool) (over b e2 t1 t2 : Int) (t3 : Bool) (t4 t5 t6 : Int) (S : Nat → Prop) (w : World) (hM : Mc w S g most ⟨left, came, leaf, at_, begun, over⟩ came 0) (hl : leaf = 0) (he : Mxm.tk left = (l2, 0)) (hx : came ++ [b] = came2) (hcl : came.length ≤ 1000) (hg : head_Get.f k (strOfNums came2) 0 = some (t1, t2, t3, t4, t5, t6)) (hn0 : t6 ≠ 0) (hn2 : t6 ≠ 2) :
 Calls Try.prog 55 #[.pointer (some ⟨g, 0, none⟩), .int .u8 b] w fun e w' => ∃ v, e = .returned (.tuple #[v, .int .i64 t6]) ∧ k34.R 34 w' 0 (New w None0) v ([] : List Ev) ∧ Mc w' (New w S) g most ⟨l2, came2, leaf, at_, begun, over⟩ came2 t6 ∧ Upd S w w' := by
 obtain ⟨gs, gr, v, S2, S3, hg, hb0, hk0, hr0, hc0, h2, h3, h23⟩ := hM
 obtain ⟨A0, c0, rfl⟩ := Kd.R_slice hc0
 have HU := Aside0.mk (Upd.refl S w)
 have IN_G := Aside0.mk hg
 have B_G := Aside0.mk hb0
 have P_K := Aside0.mk hk0
 have P_R := Aside0.mk hr0.old
 have R_C := Aside0.mk hc0
 have H2 := Aside0.mk h2
 have H3 := Aside0.mk h3
 have H23 := Aside0.mk h23
 have hu_ := Try.underlying32
 have hu2_ := Try.underlying34
 clear hg hb0 hk0 hr0 hc0 h2 h3 h23
 subst hl
 have SZ0 := Aside0.mk (Nat.le_refl w.heap.size)
 have HE := Aside0.mk he
 have HX := Aside0.mk hx
 have HCL := Aside0.mk (show came.length ≤ 100000 by omega)
 have HG := Aside0.mk hg
 clear he hx hcl hg
 have HN0 := Aside0.mk hn0
 have HN2 := Aside0.mk hn2
 have c1 : (t6 != 0) = true := bne_iff_ne.2 hn0
 clear hn0 hn2
 have hc_G_0 := co B_G 0 (.pointer (some ⟨gs, 0, none⟩)) rfl; have hc_G_1 := co B_G 1 (.pointer (some ⟨gr, 0, none⟩)) rfl; have hc_G_2 := co B_G 2 (.slice A0 came.length c0) rfl; have hc_G_3 := co B_G 3 (.int .i64 0) rfl; have hc_G_4 := co B_G 4 (.int .i64 at_) rfl; have hc_G_5 := co B_G 5 (.bool begun) rfl; have hc_G_6 := co B_G 6 (.int .i64 over) rfl
 go_enter Try.func55, Try.ntmps55
 go_wp2_with (first
  | (go_at_call 71
     (with_reducible refine (stack_takeE gs most left l2 0 _ _ (Sk.bnd zz11) HE.out).mono ?_)
     rintro e w1 ⟨rfl, hs, hu⟩
     have hs2 := hs.mono Bnd.of
     replace B_G := Aside0.mk (hu.blk zz3 (Bnd.ne zz3 zz8))
     replace R_C := Aside0.mk (row_mono (row_upd (Bnd.row zz15 (E := 5 :: (Kd.int .u8).E) (fun _ h => h)) hu (fun k h1 h2 => bnd_apart zz8 h1 h2)) Bnd.of)
     replace P_R := Aside0.mk (Rd.updB zz13 hu zz8)
     replace HU := Aside0.mk ((zz7 : Upd S w _).trans hu (fun k hk => .inl hk.1))
     clear hu
     clear P_K hs; have P_K := Aside0.mk hs2; clear hs2
     (try clear hc_G_0 hc_G_1 hc_G_2 hc_G_3 hc_G_4 hc_G_5 hc_G_6)
     have hc_G_0 := co B_G 0 (.pointer (some ⟨gs, 0, none⟩)) rfl; have hc_G_1 := co B_G 1 (.pointer (some ⟨gr, 0, none⟩)) rfl; have hc_G_2 := co B_G 2 (.slice A0 came.length c0) rfl; have hc_G_3 := co B_G 3 (.int .i64 0) rfl; have hc_G_4 := co B_G 4 (.int .i64 at_) rfl; have hc_G_5 := co B_G 5 (.bool begun) rfl; have hc_G_6 := co B_G 6 (.int .i64 over) rfl)
  | ((with_reducible refine gate_builtin (b := .append) (xs := #[.tmp 30, .tmp 32]) rfl ?_); at_builtin
     refine row_append (Kd.int .u8) (S := S3) rfl (.tmp 30) (.tmp 32) 124 5 (.int .u8 0) 1 rfl Try.underlying124 infoU8 rfl zz8 zz4 (.slice A0 came.length c0) (came) (b) [.int .u8 b] rfl rfl ?aP ?aO ?aL came2 HX.out ?_
     (case aP => exact rfl); (case aO => exact zz15); (case aL => (have := HCL.out; omega))
     intro v2 w2 ho hu
     have SZ1 := Aside0.mk HU.out.size
     have ho2 := row_mono ho (fun k h => h)
     replace B_G := Aside0.mk (hu.blk zz3 (Kd.R_ne R_C.out zz3 zz8))
     replace P_K := Aside0.mk (Sk.updR zz11 R_C.out zz8 hu)
     replace P_R := Aside0.mk (P_R.out.upd hu (fun k h e => H23.out k h.1 (row_at R_C.out e)))
     replace HU := Aside0.mk ((zz7 : Upd S w _).trans hu (fun k hk => .inl (H3.out k (row_at R_C.out hk))))
     clear hu
     obtain ⟨A_C2, c_C2, rfl⟩ := Kd.R_slice ho2
     clear R_C ho; have R_C := Aside0.mk ho2; clear ho2
     (try clear hc_G_0 hc_G_1 hc_G_2 hc_G_3 hc_G_4 hc_G_5 hc_G_6)
     have hc_G_0 := co B_G 0 (.pointer (some ⟨gs, 0, none⟩)) rfl; have hc_G_1 := co B_G 1 (.pointer (some ⟨gr, 0, none⟩)) rfl; have hc_G_2 := co B_G 2 (.slice A0 came.length c0) rfl; have hc_G_3 := co B_G 3 (.int .i64 0) rfl; have hc_G_4 := co B_G 4 (.int .i64 at_) rfl; have hc_G_5 := co B_G 5 (.bool begun) rfl; have hc_G_6 := co B_G 6 (.int .i64 over) rfl)
  | ((with_reducible refine gate_store (t := 124) (p := 35) (v := .tmp 33) rfl ?_)
     refine cellput rfl 124 (.tmp 35) (.tmp 33) rfl rfl g 2 (.slice A_C2 came2.length c_C2) rfl rfl 126 #[.pointer (some ⟨gs, 0, none⟩), .pointer (some ⟨gr, 0, none⟩), .slice A0 came.length c0, .int .i64 0, .int .i64 at_, .bool begun, .int .i64 over] #[.pointer (some ⟨gs, 0, none⟩), .pointer (some ⟨gr, 0, none⟩), .slice A_C2 came2.length c_C2, .int .i64 0, .int .i64 at_, .bool begun, .int .i64 over] zz3 zz5 zz19 rfl rfl ?_
     intro w3 hbox hu
     replace R_C := Aside0.mk (row_updT zz15 zz3 zz8 hu)
     replace P_K := Aside0.mk (Sk.updT zz11 zz3 zz8 hu)
     replace P_R := Aside0.mk (Rd.updT zz13 zz3 zz8 hu)
     replace HU := Aside0.mk ((zz7 : Upd S w _).trans hu (fun k hk => .inl zz22))
     clear hu
     clear B_G; have B_G := Aside0.mk hbox; clear hbox
     (try clear hc_G_0 hc_G_1 hc_G_2 hc_G_3 hc_G_4 hc_G_5 hc_G_6)
     have hc_G_0 := co B_G 0 (.pointer (some ⟨gs, 0, none⟩)) rfl; have hc_G_1 := co B_G 1 (.pointer (some ⟨gr, 0, none⟩)) rfl; have hc_G_2 := co B_G 2 (.slice A_C2 came2.length c_C2) rfl; have hc_G_3 := co B_G 3 (.int .i64 0) rfl; have hc_G_4 := co B_G 4 (.int .i64 at_) rfl; have hc_G_5 := co B_G 5 (.bool begun) rfl; have hc_G_6 := co B_G 6 (.int .i64 over) rfl)
  | (go_at_call 72
     (with_reducible refine (reader_err k gr came came2 b t1 t2 t3 t4 t5 t6 _ _ P_R.out.bnd HCL.out HX.out HG.out HN0.out HN2.out).mono ?_)
     rintro e w4 ⟨rfl, hs, hu⟩
     have SZ2 := Aside0.mk HU.out.size
     replace B_G := Aside0.mk (hu.blk zz3 (Bnd.ne B_G.out zz8))
     replace R_C := Aside0.mk (row_upd (row_old R_C.out) hu (fun k h3 h2 => h2.1.elim (fun a b => h3.1.elim (H23.out k a) (fun q => by have := SZ1.out; omega))))
     replace P_K := Aside0.mk (P_K.out.updB hu zz8)
     replace HU := Aside0.mk ((zz7 : Upd S w _).trans hu (fun k h => .inl (H2.out k h.1.1)))
     clear hu
     clear P_R; have P_R := Aside0.mk hs; clear hs
     (try clear hc_G_0 hc_G_1 hc_G_2 hc_G_3 hc_G_4 hc_G_5 hc_G_6)
     have hc_G_0 := co B_G 0 (.pointer (some ⟨gs, 0, none⟩)) rfl; have hc_G_1 := co B_G 1 (.pointer (some ⟨gr, 0, none⟩)) rfl; have hc_G_2 := co B_G 2 (.slice A_C2 came2.length c_C2) rfl; have hc_G_3 := co B_G 3 (.int .i64 0) rfl; have hc_G_4 := co B_G 4 (.int .i64 at_) rfl; have hc_G_5 := co B_G 5 (.bool begun) rfl; have hc_G_6 := co B_G 6 (.int .i64 over) rfl)
  | ((with_reducible refine gate_dst (N := 7) rfl ?_)
     refine boxnew ?hg (N := 7) ?hd (cs := #[.int .i64 0, .int .i64 0, .bool false, .int .i64 0]) (t := 32) ?hr ?_; (case hd => rfl); (case hg => rfl); (case hr => first | (go_simp; done) | (go_simp; rfl))
     intro g_H hge w5 hbox hu
     have NE_G_H := Aside0.mk (blk_fresh zz3 hge)
     have GE_H := Aside0.mk (Nat.le_trans (zz7 : Upd S w _).size hge)
     replace B_G := Aside0.mk (hu.blk zz3 (fun h => h))
     replace R_C := Aside0.mk (row_upd zz15 hu (fun k hk h => h.elim))
     replace P_K := Aside0.mk (Sk.updN zz11 hu)
     replace P_R := Aside0.mk (Rd.updN zz13 hu)
     replace HU := Aside0.mk ((zz7 : Upd S w _).trans hu (fun _ h => h.elim))
     clear hu
     have B_H := Aside0.mk hbox; clear hbox hge
     (try clear hc_G_0 hc_G_1 hc_G_2 hc_G_3 hc_G_4 hc_G_5 hc_G_6)
     have hc_G_0 := co B_G 0 (.pointer (some ⟨gs, 0, none⟩)) rfl; have hc_G_1 := co B_G 1 (.pointer (some ⟨gr, 0, none⟩)) rfl; have hc_G_2 := co B_G 2 (.slice A_C2 came2.length c_C2) rfl; have hc_G_3 := co B_G 3 (.int .i64 0) rfl; have hc_G_4 := co B_G 4 (.int .i64 at_) rfl; have hc_G_5 := co B_G 5 (.bool begun) rfl; have hc_G_6 := co B_G 6 (.int .i64 over) rfl; have hc_H_0 := co B_H 0 (.int .i64 0) rfl; have hc_H_1 := co B_H 1 (.int .i64 0) rfl; have hc_H_2 := co B_H 2 (.bool false) rfl; have hc_H_3 := co B_H 3 (.int .i64 0) rfl)
  | ((with_reducible refine gate_store (t := 32) (p := 7) (v := .tmp 43) rfl ?_)
     refine rowput rfl 32 (.tmp 7) (.tmp 43) rfl rfl g_H #[.int .i64 0, .int .i64 0, .bool false, .int .i64 0] rfl rfl 32 #[.int .i64 0, .int .i64 0, .bool false, .int .i64 0] zz18 zz5 rfl zz16 ?_
     intro w6 hbox hu
     replace B_G := Aside0.mk (hu.blk zz3 NE_G_H.out)
     replace R_C := Aside0.mk (row_updT zz15 zz18 zz8 hu)
     replace P_K := Aside0.mk (Sk.updT zz11 zz18 zz8 hu)
     replace P_R := Aside0.mk (Rd.updT zz13 zz18 zz8 hu)
     replace HU := Aside0.mk ((zz7 : Upd S w _).trans hu (fun k hk => .inr zz30))
     clear hu
     clear B_H; have B_H := Aside0.mk hbox; clear hbox
     (try clear hc_G_0 hc_G_1 hc_G_2 hc_G_3 hc_G_4 hc_G_5 hc_G_6 hc_H_0 hc_H_1 hc_H_2 hc_H_3)
     have hc_G_0 := co B_G 0 (.pointer (some ⟨gs, 0, none⟩)) rfl; have hc_G_1 := co B_G 1 (.pointer (some ⟨gr, 0, none⟩)) rfl; have hc_G_2 := co B_G 2 (.slice A_C2 came2.length c_C2) rfl; have hc_G_3 := co B_G 3 (.int .i64 0) rfl; have hc_G_4 := co B_G 4 (.int .i64 at_) rfl; have hc_G_5 := co B_G 5 (.bool begun) rfl; have hc_G_6 := co B_G 6 (.int .i64 over) rfl; have hc_H_0 := co B_H 0 (.int .i64 0) rfl; have hc_H_1 := co B_H 1 (.int .i64 0) rfl; have hc_H_2 := co B_H 2 (.bool false) rfl; have hc_H_3 := co B_H 3 (.int .i64 0) rfl))
 go_ret2
 exact ⟨_, rfl, Kd.R_nil _ _ _ _ _, ⟨gs, gr, _, (New w3 (Bnd w3 [143, 5] (fun k => S2 k ∧ k < w.heap.size))), (fun k => New w1 S3 k ∧ k < w3.heap.size), .inl IN_G.out, zz3, Sk.mono zz11 (fun k h => .inl h), zz13, zz15, fun k h => h.elim (fun h => .inl (H2.out k h.1.1)) (fun h => .inr (Nat.le_trans SZ2.out h)), fun k h => h.1.elim (fun h => .inl (H3.out k h)) (fun h => .inr (Nat.le_trans SZ1.out h)), fun k h h' => h.elim (fun h => h'.1.elim (H23.out k h.1.1) (fun q => by have := SZ1.out; have := h.1.2; omega)) (fun h => by have := h'.2; omega)⟩, zz7⟩
set_option maxHeartbeats 8000000 in
set_option maxRecDepth 100000 in
theorem mach_stepOk (k : Nat) (g most : Nat) (left l2 came came2 : List Int) (leaf at_ : Int) (begun : Bool) (over b e2 t1 t2 : Int) (t3 : Bool) (t4 t5 t6 : Int) (S : Nat → Prop) (w : World) (hM : Mc w S g most ⟨left, came, leaf, at_, begun, over⟩ came 0) (hl : leaf = 0) (he : Mxm.tk left = (l2, 0)) (hx : came ++ [b] = came2) (hcl : came.length ≤ 1000) (hg : head_Get.f k (strOfNums came2) 0 = some (t1, t2, t3, t4, t5, 0)) (ht0 : 0 ≤ t4) (ht1 : t4 ≤ 2305843009213693951) :
 Calls Try.prog 55 #[.pointer (some ⟨g, 0, none⟩), .int .u8 b] w fun e w' => ∃ v, e = .returned (.tuple #[v, .int .i64 (beginM most ⟨l2, came2, 0, at_, begun, over⟩ ⟨t1, t2, t3, t4⟩).2.2]) ∧ k34.R 34 w' 0 (New w None0) v ((beginM most ⟨l2, came2, 0, at_, begun, over⟩ ⟨t1, t2, t3, t4⟩).2.1 : List Ev) ∧ Mc w' (New w S) g most (beginM most ⟨l2, came2, 0, at_, begun, over⟩ ⟨t1, t2, t3, t4⟩).1 [] 0 ∧ Upd S w w' := by
 obtain ⟨gs, gr, v, S2, S3, hg, hb0, hk0, hr0, hc0, h2, h3, h23⟩ := hM
 obtain ⟨A0, c0, rfl⟩ := Kd.R_slice hc0
 have HU := Aside0.mk (Upd.refl S w)
 have IN_G := Aside0.mk hg
 have B_G := Aside0.mk hb0
 have P_K := Aside0.mk hk0
 have P_R := Aside0.mk hr0.old
 have R_C := Aside0.mk hc0
 have H2 := Aside0.mk h2
 have H3 := Aside0.mk h3
 have H23 := Aside0.mk h23
 have hu_ := Try.underlying32
 have hu2_ := Try.underlying34
 clear hg hb0 hk0 hr0 hc0 h2 h3 h23
 subst hl
 have SZ0 := Aside0.mk (Nat.le_refl w.heap.size)
 have HE := Aside0.mk he
 have HX := Aside0.mk hx
 have HCL := Aside0.mk (show came.length ≤ 100000 by omega)
 have HG := Aside0.mk hg
 clear he hx hcl hg
 have HT0 := Aside0.mk ht0
 have HT1 := Aside0.mk ht1
 clear ht0 ht1
 have hc_G_0 := co B_G 0 (.pointer (some ⟨gs, 0, none⟩)) rfl; have hc_G_1 := co B_G 1 (.pointer (some ⟨gr, 0, none⟩)) rfl; have hc_G_2 := co B_G 2 (.slice A0 came.length c0) rfl; have hc_G_3 := co B_G 3 (.int .i64 0) rfl; have hc_G_4 := co B_G 4 (.int .i64 at_) rfl; have hc_G_5 := co B_G 5 (.bool begun) rfl; have hc_G_6 := co B_G 6 (.int .i64 over) rfl
 go_enter Try.func55, Try.ntmps55
 go_wp2_with (first
  | (go_at_call 71
     (with_reducible refine (stack_takeE gs most left l2 0 _ _ (Sk.bnd zz11) HE.out).mono ?_)
     rintro e w1 ⟨rfl, hs, hu⟩
     have hs2 := hs.mono Bnd.of
     replace B_G := Aside0.mk (hu.blk zz3 (Bnd.ne zz3 zz8))
     replace R_C := Aside0.mk (row_mono (row_upd (Bnd.row zz15 (E := 5 :: (Kd.int .u8).E) (fun _ h => h)) hu (fun k h1 h2 => bnd_apart zz8 h1 h2)) Bnd.of)
     replace P_R := Aside0.mk (Rd.updB zz13 hu zz8)
     replace HU := Aside0.mk ((zz7 : Upd S w _).trans hu (fun k hk => .inl hk.1))
     clear hu
     clear P_K hs; have P_K := Aside0.mk hs2; clear hs2
     (try clear hc_G_0 hc_G_1 hc_G_2 hc_G_3 hc_G_4 hc_G_5 hc_G_6)
     have hc_G_0 := co B_G 0 (.pointer (some ⟨gs, 0, none⟩)) rfl; have hc_G_1 := co B_G 1 (.pointer (some ⟨gr, 0, none⟩)) rfl; have hc_G_2 := co B_G 2 (.slice A0 came.length c0) rfl; have hc_G_3 := co B_G 3 (.int .i64 0) rfl; have hc_G_4 := co B_G 4 (.int .i64 at_) rfl; have hc_G_5 := co B_G 5 (.bool begun) rfl; have hc_G_6 := co B_G 6 (.int .i64 over) rfl)
  | ((with_reducible refine gate_builtin (b := .append) (xs := #[.tmp 30, .tmp 32]) rfl ?_); at_builtin
     refine row_append (Kd.int .u8) (S := S3) rfl (.tmp 30) (.tmp 32) 124 5 (.int .u8 0) 1 rfl Try.underlying124 infoU8 rfl zz8 zz4 (.slice A0 came.length c0) (came) (b) [.int .u8 b] rfl rfl ?aP ?aO ?aL came2 HX.out ?_
     (case aP => exact rfl); (case aO => exact zz15); (case aL => (have := HCL.out; omega))
     intro v2 w2 ho hu
     have SZ1 := Aside0.mk HU.out.size
     have ho2 := row_mono ho (fun k h => h)
     replace B_G := Aside0.mk (hu.blk zz3 (Kd.R_ne R_C.out zz3 zz8))
     replace P_K := Aside0.mk (Sk.updR zz11 R_C.out zz8 hu)
     replace P_R := Aside0.mk (P_R.out.upd hu (fun k h e => H23.out k h.1 (row_at R_C.out e)))
     replace HU := Aside0.mk ((zz7 : Upd S w _).trans hu (fun k hk => .inl (H3.out k (row_at R_C.out hk))))
     clear hu
     obtain ⟨A_C2, c_C2, rfl⟩ := Kd.R_slice ho2
     clear R_C ho; have R_C := Aside0.mk ho2; clear ho2
     (try clear hc_G_0 hc_G_1 hc_G_2 hc_G_3 hc_G_4 hc_G_5 hc_G_6)
     have hc_G_0 := co B_G 0 (.pointer (some ⟨gs, 0, none⟩)) rfl; have hc_G_1 := co B_G 1 (.pointer (some ⟨gr, 0, none⟩)) rfl; have hc_G_2 := co B_G 2 (.slice A0 came.length c0) rfl; have hc_G_3 := co B_G 3 (.int .i64 0) rfl; have hc_G_4 := co B_G 4 (.int .i64 at_) rfl; have hc_G_5 := co B_G 5 (.bool begun) rfl; have hc_G_6 := co B_G 6 (.int .i64 over) rfl)
  | ((with_reducible refine gate_store (t := 124) (p := 35) (v := .tmp 33) rfl ?_)
     refine cellput rfl 124 (.tmp 35) (.tmp 33) rfl rfl g 2 (.slice A_C2 came2.length c_C2) rfl rfl 126 #[.pointer (some ⟨gs, 0, none⟩), .pointer (some ⟨gr, 0, none⟩), .slice A0 came.length c0, .int .i64 0, .int .i64 at_, .bool begun, .int .i64 over] #[.pointer (some ⟨gs, 0, none⟩), .pointer (some ⟨gr, 0, none⟩), .slice A_C2 came2.length c_C2, .int .i64 0, .int .i64 at_, .bool begun, .int .i64 over] zz3 zz5 zz19 rfl rfl ?_
     intro w3 hbox hu
     replace R_C := Aside0.mk (row_updT zz15 zz3 zz8 hu)
     replace P_K := Aside0.mk (Sk.updT zz11 zz3 zz8 hu)
     replace P_R := Aside0.mk (Rd.updT zz13 zz3 zz8 hu)
     replace HU := Aside0.mk ((zz7 : Upd S w _).trans hu (fun k hk => .inl zz22))
     clear hu
     clear B_G; have B_G := Aside0.mk hbox; clear hbox
     (try clear hc_G_0 hc_G_1 hc_G_2 hc_G_3 hc_G_4 hc_G_5 hc_G_6)
     have hc_G_0 := co B_G 0 (.pointer (some ⟨gs, 0, none⟩)) rfl; have hc_G_1 := co B_G 1 (.pointer (some ⟨gr, 0, none⟩)) rfl; have hc_G_2 := co B_G 2 (.slice A_C2 came2.length c_C2) rfl; have hc_G_3 := co B_G 3 (.int .i64 0) rfl; have hc_G_4 := co B_G 4 (.int .i64 at_) rfl; have hc_G_5 := co B_G 5 (.bool begun) rfl; have hc_G_6 := co B_G 6 (.int .i64 over) rfl)
  | (go_at_call 72
     (with_reducible refine (reader_ok k gr came came2 b t1 t2 t3 t4 t5 0 _ _ P_R.out.bnd HCL.out HX.out HG.out).mono ?_)
     rintro e w4 ⟨rfl, hs, hu⟩
     have SZ2 := Aside0.mk HU.out.size
     replace B_G := Aside0.mk (hu.blk zz3 (Bnd.ne B_G.out zz8))
     replace R_C := Aside0.mk (row_upd (row_old R_C.out) hu (fun k h3 h2 => h2.1.elim (fun a b => h3.1.elim (H23.out k a) (fun q => by have := SZ1.out; omega))))
     replace P_K := Aside0.mk (P_K.out.updB hu zz8)
     replace HU := Aside0.mk ((zz7 : Upd S w _).trans hu (fun k h => .inl (H2.out k h.1.1)))
     clear hu
     clear P_R; have P_R := Aside0.mk hs; clear hs
     (try clear hc_G_0 hc_G_1 hc_G_2 hc_G_3 hc_G_4 hc_G_5 hc_G_6)
     have hc_G_0 := co B_G 0 (.pointer (some ⟨gs, 0, none⟩)) rfl; have hc_G_1 := co B_G 1 (.pointer (some ⟨gr, 0, none⟩)) rfl; have hc_G_2 := co B_G 2 (.slice A_C2 came2.length c_C2) rfl; have hc_G_3 := co B_G 3 (.int .i64 0) rfl; have hc_G_4 := co B_G 4 (.int .i64 at_) rfl; have hc_G_5 := co B_G 5 (.bool begun) rfl; have hc_G_6 := co B_G 6 (.int .i64 over) rfl)
  | ((with_reducible refine gate_dst (N := 7) rfl ?_)
     refine boxnew ?hg (N := 7) ?hd (cs := #[.int .i64 0, .int .i64 0, .bool false, .int .i64 0]) (t := 32) ?hr ?_; (case hd => rfl); (case hg => rfl); (case hr => first | (go_simp; done) | (go_simp; rfl))
     intro g_H hge w5 hbox hu
     have NE_G_H := Aside0.mk (blk_fresh zz3 hge)
     have GE_H := Aside0.mk (Nat.le_trans (zz7 : Upd S w _).size hge)
     replace B_G := Aside0.mk (hu.blk zz3 (fun h => h))
     replace R_C := Aside0.mk (row_upd zz15 hu (fun k hk h => h.elim))
     replace P_K := Aside0.mk (Sk.updN zz11 hu)
     replace P_R := Aside0.mk (Rd.updN zz13 hu)
     replace HU := Aside0.mk ((zz7 : Upd S w _).trans hu (fun _ h => h.elim))
     clear hu
     have B_H := Aside0.mk hbox; clear hbox hge
     (try clear hc_G_0 hc_G_1 hc_G_2 hc_G_3 hc_G_4 hc_G_5 hc_G_6)
     have hc_G_0 := co B_G 0 (.pointer (some ⟨gs, 0, none⟩)) rfl; have hc_G_1 := co B_G 1 (.pointer (some ⟨gr, 0, none⟩)) rfl; have hc_G_2 := co B_G 2 (.slice A_C2 came2.length c_C2) rfl; have hc_G_3 := co B_G 3 (.int .i64 0) rfl; have hc_G_4 := co B_G 4 (.int .i64 at_) rfl; have hc_G_5 := co B_G 5 (.bool begun) rfl; have hc_G_6 := co B_G 6 (.int .i64 over) rfl; have hc_H_0 := co B_H 0 (.int .i64 0) rfl; have hc_H_1 := co B_H 1 (.int .i64 0) rfl; have hc_H_2 := co B_H 2 (.bool false) rfl; have hc_H_3 := co B_H 3 (.int .i64 0) rfl)
  | ((with_reducible refine gate_store (t := 32) (p := 7) (v := .tmp 43) rfl ?_)
     refine rowput rfl 32 (.tmp 7) (.tmp 43) rfl rfl g_H #[.int .i64 t1, .int .i64 t2, .bool t3, .int .i64 t4] rfl rfl 32 #[.int .i64 0, .int .i64 0, .bool false, .int .i64 0] zz18 zz5 rfl zz16 ?_
     intro w6 hbox hu
     replace B_G := Aside0.mk (hu.blk zz3 NE_G_H.out)
     replace R_C := Aside0.mk (row_updT zz15 zz18 zz8 hu)
     replace P_K := Aside0.mk (Sk.updT zz11 zz18 zz8 hu)
     replace P_R := Aside0.mk (Rd.updT zz13 zz18 zz8 hu)
     replace HU := Aside0.mk ((zz7 : Upd S w _).trans hu (fun k hk => .inr zz30))
     clear hu
     clear B_H; have B_H := Aside0.mk hbox; clear hbox
     (try clear hc_G_0 hc_G_1 hc_G_2 hc_G_3 hc_G_4 hc_G_5 hc_G_6 hc_H_0 hc_H_1 hc_H_2 hc_H_3)
     have hc_G_0 := co B_G 0 (.pointer (some ⟨gs, 0, none⟩)) rfl; have hc_G_1 := co B_G 1 (.pointer (some ⟨gr, 0, none⟩)) rfl; have hc_G_2 := co B_G 2 (.slice A_C2 came2.length c_C2) rfl; have hc_G_3 := co B_G 3 (.int .i64 0) rfl; have hc_G_4 := co B_G 4 (.int .i64 at_) rfl; have hc_G_5 := co B_G 5 (.bool begun) rfl; have hc_G_6 := co B_G 6 (.int .i64 over) rfl; have hc_H_0 := co B_H 0 (.int .i64 t1) rfl; have hc_H_1 := co B_H 1 (.int .i64 t2) rfl; have hc_H_2 := co B_H 2 (.bool t3) rfl; have hc_H_3 := co B_H 3 (.int .i64 t4) rfl)
  | (go_at_call 73
     have hm : Mc _ (New w S) g most ⟨l2, came2, 0, at_, begun, over⟩ [] 0 := ⟨gs, gr, _, (New w3 (Bnd w3 [143, 5] (fun k => S2 k ∧ k < w.heap.size))), (fun k => New w1 S3 k ∧ k < w3.heap.size), .inl IN_G.out, B_G.out, Sk.mono P_K.out (fun k h => .inl h), P_R.out, R_C.out, fun k h => h.elim (fun h => .inl (H2.out k h.1.1)) (fun h => .inr (Nat.le_trans SZ2.out h)), fun k h => h.1.elim (fun h => .inl (H3.out k h)) (fun h => .inr (Nat.le_trans SZ1.out h)), fun k h h' => h.elim (fun h => h'.1.elim (H23.out k h.1.1) (fun q => by have := SZ1.out; have := h.1.2; omega)) (fun h => by have := h'.2; omega)⟩
     have HUx := Aside0.mk HU.out
     (with_reducible refine (mach_begin g most ⟨l2, came2, 0, at_, begun, over⟩ ⟨t1, t2, t3, t4⟩ _ _ _ _ hm HT0.out HT1.out).mono ?_)
     rintro e w9 ⟨v9, rfl, q1, q2, q3⟩
     have Q1 := Aside0.mk (row_mono q1 (fun k h => h.elim (fun h => h.elim) (fun h => (.inr (Nat.le_trans HUx.out.size h) : New w None0 k))))
     have Q2 := Aside0.mk (q2.mono (fun k h => h.elim id (fun h => (.inr (Nat.le_trans HUx.out.size h) : New w S k))))
     have Q3 := Aside0.mk (HUx.out.trans q3 (fun k h => h))
     clear q1 q2 q3 hm))
 go_ret2
 exact ⟨_, rfl, Q1.out, Q2.out, Q3.out⟩
end Go.Proofs.Ytcfommconnlhgaa.PC
