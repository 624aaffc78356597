/- What the row of GrammarFront stands on, made small by a program of this session (pack.py). -/
import Derived.Test.YtcfommconnlhgaaCGrammarFront2
import Derived.Test.YtcfommconnlhgaaCGrammarFront14
namespace Go.Proofs.Ytcfommconnlhgaa.PC
open RowKit YtcfommconnlhgaaW.PrintWords YtcfommconnlhgaaW.PrintLast YtcfommconnlhgaaW.PrintMore
attribute [local go_sem] max2_int min2_int max_two min_two max_three min_three max_four min_four
set_option linter.unusedVariables false
set_option linter.unusedSimpArgs false
open Own
def Mc (w : World) (S : Nat → Prop) (g : Nat) (most : Nat) (s : St) (rc : List Int) (ro : Int) : Prop :=
 ∃ (gs gr : Nat) (v : Value) (S2 S3 : Nat → Prop), S g ∧ w.heap[g]? = some (.cells #[.pointer (some ⟨gs, 0, none⟩), .pointer (some ⟨gr, 0, none⟩), v, .int .i64 s.leaf, .int .i64 s.at_, .bool s.begun, .int .i64 s.over] 126 (0, 0)) ∧
  Sk w S gs most s.left ∧ Rd w S2 gr rc ro ∧ (Kd.int .u8).R 5 w 0 S3 v s.came ∧ (∀ k, S2 k → S k) ∧ (∀ k, S3 k → S k) ∧ (∀ k, S2 k → ¬ S3 k)
theorem Mc.upd {w W : World} {S T : Nat → Prop} {g most : Nat} {s : St} {rc : List Int} {ro : Int} (h : Mc w S g most s rc ro) (hu : Upd T w W) (hd : ∀ k, S k → ¬ T k) : Mc W S g most s rc ro := by
 obtain ⟨gs, gr, v, S2, S3, hg, hb, hk, hr, hc, h2, h3, h23⟩ := h
 exact ⟨gs, gr, v, S2, S3, hg, hu.blk hb (hd g hg), hk.upd hu hd, hr.upd hu (fun k h => hd k (h2 k h)), row_upd hc hu (fun k h => hd k (h3 k h)), h2, h3, h23⟩
theorem Mc.mono {w : World} {S S' : Nat → Prop} {g most : Nat} {s : St} {rc : List Int} {ro : Int} (h : Mc w S g most s rc ro) (hs : ∀ k, S k → S' k) : Mc w S' g most s rc ro := by
 obtain ⟨gs, gr, v, S2, S3, hg, hb, hk, hr, hc, h2, h3, h23⟩ := h
 exact ⟨gs, gr, v, S2, S3, hs g hg, hb, hk.mono hs, hr, hc, fun k h => hs k (h2 k h), fun k h => hs k (h3 k h), h23⟩
theorem Mc.bnd {w : World} {S : Nat → Prop} {g most : Nat} {s : St} {rc : List Int} {ro : Int} (h : Mc w S g most s rc ro) : Mc w (Bnd w [126, 141, 143, 5] S) g most s rc ro := by
 obtain ⟨gs, gr, v, S2, S3, hg, hb, hk, hr, hc, h2, h3, h23⟩ := h
 exact ⟨gs, gr, v, Bnd w [143, 5] S2, Bnd w [5] S3, Bnd.blk hg hb zz8, hb, hk.bnd.mono (Bnd.mono (fun _ h => h) zz8), hr.bnd, Bnd.row hc zz8, Bnd.mono h2 zz8, Bnd.mono h3 zz8, fun k a b => h23 k a.1 b.1⟩
theorem Mc.drew {w : World} {S : Nat → Prop} {g most : Nat} {s : St} {rc : List Int} {ro : Int} (h : Mc w S g most s rc ro) : Mc w.drew S g most s rc ro := h.upd (Upd.drew (Upd.refl None0 w)) (fun _ _ h => h)
theorem Mc.drewN {w : World} {S : Nat → Prop} {g most : Nat} {s : St} {rc : List Int} {ro : Int} (h : Mc w S g most s rc ro) (n : Nat) : Mc (w.drewN n) S g most s rc ro := h.upd (Upd.drewN (Upd.refl None0 w) n) (fun _ _ h => h)
theorem Mc.alloc {w : World} {S : Nat → Prop} {g most : Nat} {s : St} {rc : List Int} {ro : Int} (h : Mc w S g most s rc ro) (o : Obj) : Mc (w.alloc o) S g most s rc ro := h.upd (Upd.alloc (Upd.refl None0 w) o) (fun _ _ h => h)
theorem Mc.updN {w W : World} {S : Nat → Prop} {g most : Nat} {s : St} {rc : List Int} {ro : Int} (h : Mc w S g most s rc ro) (hu : Upd None0 w W) : Mc W S g most s rc ro := h.upd hu (fun _ _ h => h)
theorem Mc.updT {w W : World} {S : Nat → Prop} {g most : Nat} {s : St} {rc : List Int} {ro : Int} (h : Mc w S g most s rc ro) {g' t : Nat} {cs : Array Value} (hb : w.heap[g']? = some (.cells cs t (0, 0))) (ht : ∀ q, q ∈ [126, 141, 143, 5] → q ≠ t) (hu : Upd (fun k => k = g') w W) : Mc W S g most s rc ro := (h.bnd.upd hu (Bnd.ne_one hb ht)).mono Bnd.of
theorem Mc.updR {w W : World} {S : Nat → Prop} {g most : Nat} {s : St} {rc : List Int} {ro : Int} {T : Nat → Prop} {α : Type} {d : Kd α} {e : Nat} {v' : Value} {xs : List α} (h : Mc w S g most s rc ro) (hr : d.R e w 0 T v' xs) (ht : ∀ q, q ∈ [126, 141, 143, 5] → q ≠ e) (hu : Upd (fun k => some k = v'.ownBlock) w W) : Mc W S g most s rc ro := (h.bnd.upd hu (Bnd.ne_row hr ht)).mono Bnd.of
theorem Mc.updB {w W : World} {S : Nat → Prop} {g most : Nat} {s : St} {rc : List Int} {ro : Int} {T : Nat → Prop} {E' : List Nat} (h : Mc w S g most s rc ro) (hu : Upd (Bnd w E' T) w W) (hE : ∀ q, q ∈ [126, 141, 143, 5] → q ∉ E') : Mc W S g most s rc ro := (h.bnd.upd hu (fun k h1 h2 => bnd_apart hE h1 h2)).mono Bnd.of
set_option maxHeartbeats 8000000 in
set_option maxRecDepth 100000 in
theorem mach_content0 (g most : Nat) (s : St) (b : Int) (S : Nat → Prop) (w : World) (rc : List Int) (ro : Int) (hM : Mc w S g most s rc ro) (hl0 : 0 < s.leaf) (hl1 : s.leaf ≤ 2305843009213693951) (hz : s.leaf - 1 ≠ 0) :
 Calls Try.prog 70 #[.pointer (some ⟨g, 0, none⟩), .int .u8 b] w fun e w' => ∃ v, e = .returned v ∧ k34.R 34 w' 0 (New w None0) v (contentM s b).2 ∧ Mc w' (New w S) g most (contentM s b).1 rc ro ∧ Upd S w w' := by
 obtain ⟨gs, gr, v, S2, S3, hg, hb0, hk0, hr0, hc0, h2, h3, h23⟩ := hM
 obtain ⟨A0, c0, rfl⟩ := Kd.R_slice hc0
 obtain ⟨left, came, leaf, at_, begun, over⟩ := s
 have HU := Aside0.mk (Upd.refl S w)
 have IN_G := Aside0.mk hg
 have B_G := Aside0.mk hb0
 have P_K := Aside0.mk hk0
 have P_R := Aside0.mk hr0
 have R_C := Aside0.mk hc0
 have H2 := Aside0.mk h2
 have H3 := Aside0.mk h3
 have H23 := Aside0.mk h23
 have hu_ := Try.underlying32
 have hu2_ := Try.underlying34
 clear hg hb0 hk0 hr0 hc0 h2 h3 h23
 simp only at *
 have ez : contentM ⟨left, came, leaf, at_, begun, over⟩ b = (⟨(Mxm.tk left).1, came, leaf - 1, at_, begun, over⟩, [ev 3 at_ h0 b]) := by simp [contentM, ends, takeM, hz]
 have EZ := Aside0.mk ez
 have c1 : (leaf - 1 == 0) = false := beq_eq_false_iff_ne.2 hz
 clear ez hz
 have hc_G_0 := co B_G 0 (.pointer (some ⟨gs, 0, none⟩)) rfl; have hc_G_1 := co B_G 1 (.pointer (some ⟨gr, 0, none⟩)) rfl; have hc_G_2 := co B_G 2 (.slice A0 came.length c0) rfl; have hc_G_3 := co B_G 3 (.int .i64 leaf) rfl; have hc_G_4 := co B_G 4 (.int .i64 at_) rfl; have hc_G_5 := co B_G 5 (.bool begun) rfl; have hc_G_6 := co B_G 6 (.int .i64 over) rfl
 go_enter Try.func70, Try.ntmps70
 go_wp2_with (first
  | (go_at_call 71
     (with_reducible refine (stack_take gs most left _ _ (Sk.bnd zz11)).mono ?_)
     rintro e w1 ⟨rfl, hs, hu⟩
     have hs2 := hs.mono Bnd.of
     replace B_G := Aside0.mk (hu.blk zz3 (Bnd.ne zz3 zz8))
     replace R_C := Aside0.mk (row_mono (row_upd (Bnd.row zz15 (E := 5 :: (Kd.int .u8).E) (fun _ h => h)) hu (fun k h1 h2 => bnd_apart zz8 h1 h2)) Bnd.of)
     replace P_R := Aside0.mk (Rd.updB zz13 hu zz8)
     replace HU := Aside0.mk ((zz7 : Upd S w _).trans hu (fun k hk => .inl hk.1))
     clear hu
     clear P_K hs; have P_K := Aside0.mk hs2; clear hs2
     (try clear hc_G_0 hc_G_1 hc_G_2 hc_G_3 hc_G_4 hc_G_5 hc_G_6)
     have hc_G_0 := co B_G 0 (.pointer (some ⟨gs, 0, none⟩)) rfl; have hc_G_1 := co B_G 1 (.pointer (some ⟨gr, 0, none⟩)) rfl; have hc_G_2 := co B_G 2 (.slice A0 came.length c0) rfl; have hc_G_3 := co B_G 3 (.int .i64 leaf) rfl; have hc_G_4 := co B_G 4 (.int .i64 at_) rfl; have hc_G_5 := co B_G 5 (.bool begun) rfl; have hc_G_6 := co B_G 6 (.int .i64 over) rfl)
  | ((with_reducible refine gate_store (t := 3) (p := 17) (v := .tmp 15) rfl ?_)
     refine cellput rfl 3 (.tmp 17) (.tmp 15) rfl rfl g 3 (.int .i64 (leaf - 1)) rfl rfl 126 #[.pointer (some ⟨gs, 0, none⟩), .pointer (some ⟨gr, 0, none⟩), .slice A0 came.length c0, .int .i64 leaf, .int .i64 at_, .bool begun, .int .i64 over] #[.pointer (some ⟨gs, 0, none⟩), .pointer (some ⟨gr, 0, none⟩), .slice A0 came.length c0, .int .i64 (leaf - 1), .int .i64 at_, .bool begun, .int .i64 over] zz3 zz5 zz19 rfl rfl ?_
     intro w2 hbox hu
     replace R_C := Aside0.mk (row_updT zz15 zz3 zz8 hu)
     replace P_K := Aside0.mk (Sk.updT zz11 zz3 zz8 hu)
     replace P_R := Aside0.mk (Rd.updT zz13 zz3 zz8 hu)
     replace HU := Aside0.mk ((zz7 : Upd S w _).trans hu (fun k hk => .inl zz22))
     clear hu
     clear B_G; have B_G := Aside0.mk hbox; clear hbox
     (try clear hc_G_0 hc_G_1 hc_G_2 hc_G_3 hc_G_4 hc_G_5 hc_G_6)
     have hc_G_0 := co B_G 0 (.pointer (some ⟨gs, 0, none⟩)) rfl; have hc_G_1 := co B_G 1 (.pointer (some ⟨gr, 0, none⟩)) rfl; have hc_G_2 := co B_G 2 (.slice A0 came.length c0) rfl; have hc_G_3 := co B_G 3 (.int .i64 (leaf - 1)) rfl; have hc_G_4 := co B_G 4 (.int .i64 at_) rfl; have hc_G_5 := co B_G 5 (.bool begun) rfl; have hc_G_6 := co B_G 6 (.int .i64 over) rfl)
  | ((with_reducible refine gate_dst (N := 24) rfl ?_)
     refine row_lit k34 34 (N := 24) (xs := [ev 3 at_ h0 b]) (inner := [.int .i64 3, .int .i64 at_, .int .i64 0, .int .i64 0, .bool false, .int .i64 0, .int .u8 b]) rfl ?hd ?hr (reps_one (k34_mkM _ _ _ (ev 3 at_ h0 b)) rfl) zz19 ?_; (case hd => rfl); (case hr => first | (go_simp; done) | (go_simp; rfl))
     intro v2 w3 ho hu
     have ho2 := row_mono ho (fun k hk => hk.elim (fun h => h.elim) (fun h => (.inr (Nat.le_trans (zz7 : Upd S w _).size h) : New w None0 k)))
     replace B_G := Aside0.mk (hu.blk zz3 (fun h => h))
     replace R_C := Aside0.mk (row_upd zz15 hu (fun k hk h => h.elim))
     replace P_K := Aside0.mk (Sk.updN zz11 hu)
     replace P_R := Aside0.mk (Rd.updN zz13 hu)
     replace HU := Aside0.mk ((zz7 : Upd S w _).trans hu (fun _ h => h.elim))
     clear hu
     obtain ⟨A_O, c_O, rfl⟩ := Kd.R_slice ho2
     clear ho; have R_O := Aside0.mk ho2; clear ho2
     (try clear hc_G_0 hc_G_1 hc_G_2 hc_G_3 hc_G_4 hc_G_5 hc_G_6)
     have hc_G_0 := co B_G 0 (.pointer (some ⟨gs, 0, none⟩)) rfl; have hc_G_1 := co B_G 1 (.pointer (some ⟨gr, 0, none⟩)) rfl; have hc_G_2 := co B_G 2 (.slice A0 came.length c0) rfl; have hc_G_3 := co B_G 3 (.int .i64 (leaf - 1)) rfl; have hc_G_4 := co B_G 4 (.int .i64 at_) rfl; have hc_G_5 := co B_G 5 (.bool begun) rfl; have hc_G_6 := co B_G 6 (.int .i64 over) rfl))
 go_ret
 rw [EZ.out]
 exact ⟨_, rfl, (by exact rl R_O), ⟨gs, gr, _, S2, S3, .inl IN_G.out, zz3, Sk.mono P_K.out (fun k h => .inl h), P_R.out, R_C.out, fun k h => .inl (H2.out k h), fun k h => .inl (H3.out k h), H23.out⟩, zz7⟩
set_option maxHeartbeats 8000000 in
set_option maxRecDepth 100000 in
theorem mach_content1 (g most : Nat) (s : St) (b : Int) (S : Nat → Prop) (w : World) (rc : List Int) (ro : Int) (hM : Mc w S g most s rc ro) (hl0 : 0 < s.leaf) (hl1 : s.leaf ≤ 2305843009213693951) (hz : s.leaf - 1 = 0) :
 Calls Try.prog 70 #[.pointer (some ⟨g, 0, none⟩), .int .u8 b] w fun e w' => ∃ v, e = .returned v ∧ k34.R 34 w' 0 (New w None0) v (contentM s b).2 ∧ Mc w' (New w S) g most (contentM s b).1 rc ro ∧ Upd S w w' := by
 obtain ⟨gs, gr, v, S2, S3, hg, hb0, hk0, hr0, hc0, h2, h3, h23⟩ := hM
 obtain ⟨A0, c0, rfl⟩ := Kd.R_slice hc0
 obtain ⟨left, came, leaf, at_, begun, over⟩ := s
 have HU := Aside0.mk (Upd.refl S w)
 have IN_G := Aside0.mk hg
 have B_G := Aside0.mk hb0
 have P_K := Aside0.mk hk0
 have P_R := Aside0.mk hr0
 have R_C := Aside0.mk hc0
 have H2 := Aside0.mk h2
 have H3 := Aside0.mk h3
 have H23 := Aside0.mk h23
 have hu_ := Try.underlying32
 have hu2_ := Try.underlying34
 clear hg hb0 hk0 hr0 hc0 h2 h3 h23
 simp only at *
 have ez : contentM ⟨left, came, leaf, at_, begun, over⟩ b = (⟨(Mxm.tk left).1, came, leaf - 1, at_, begun, over⟩, [ev 3 at_ h0 b, ev 4 at_ h0 0]) := by simp [contentM, ends, takeM, hz]
 have EZ := Aside0.mk ez
 have c1 : (leaf - 1 == 0) = true := by rw [hz]; rfl
 clear ez hz
 have hc_G_0 := co B_G 0 (.pointer (some ⟨gs, 0, none⟩)) rfl; have hc_G_1 := co B_G 1 (.pointer (some ⟨gr, 0, none⟩)) rfl; have hc_G_2 := co B_G 2 (.slice A0 came.length c0) rfl; have hc_G_3 := co B_G 3 (.int .i64 leaf) rfl; have hc_G_4 := co B_G 4 (.int .i64 at_) rfl; have hc_G_5 := co B_G 5 (.bool begun) rfl; have hc_G_6 := co B_G 6 (.int .i64 over) rfl
 go_enter Try.func70, Try.ntmps70
 go_wp2_with (first
  | (go_at_call 71
     (with_reducible refine (stack_take gs most left _ _ (Sk.bnd zz11)).mono ?_)
     rintro e w1 ⟨rfl, hs, hu⟩
     have hs2 := hs.mono Bnd.of
     replace B_G := Aside0.mk (hu.blk zz3 (Bnd.ne zz3 zz8))
     replace R_C := Aside0.mk (row_mono (row_upd (Bnd.row zz15 (E := 5 :: (Kd.int .u8).E) (fun _ h => h)) hu (fun k h1 h2 => bnd_apart zz8 h1 h2)) Bnd.of)
     replace P_R := Aside0.mk (Rd.updB zz13 hu zz8)
     replace HU := Aside0.mk ((zz7 : Upd S w _).trans hu (fun k hk => .inl hk.1))
     clear hu
     clear P_K hs; have P_K := Aside0.mk hs2; clear hs2
     (try clear hc_G_0 hc_G_1 hc_G_2 hc_G_3 hc_G_4 hc_G_5 hc_G_6)
     have hc_G_0 := co B_G 0 (.pointer (some ⟨gs, 0, none⟩)) rfl; have hc_G_1 := co B_G 1 (.pointer (some ⟨gr, 0, none⟩)) rfl; have hc_G_2 := co B_G 2 (.slice A0 came.length c0) rfl; have hc_G_3 := co B_G 3 (.int .i64 leaf) rfl; have hc_G_4 := co B_G 4 (.int .i64 at_) rfl; have hc_G_5 := co B_G 5 (.bool begun) rfl; have hc_G_6 := co B_G 6 (.int .i64 over) rfl)
  | ((with_reducible refine gate_store (t := 3) (p := 17) (v := .tmp 15) rfl ?_)
     refine cellput rfl 3 (.tmp 17) (.tmp 15) rfl rfl g 3 (.int .i64 (leaf - 1)) rfl rfl 126 #[.pointer (some ⟨gs, 0, none⟩), .pointer (some ⟨gr, 0, none⟩), .slice A0 came.length c0, .int .i64 leaf, .int .i64 at_, .bool begun, .int .i64 over] #[.pointer (some ⟨gs, 0, none⟩), .pointer (some ⟨gr, 0, none⟩), .slice A0 came.length c0, .int .i64 (leaf - 1), .int .i64 at_, .bool begun, .int .i64 over] zz3 zz5 zz19 rfl rfl ?_
     intro w2 hbox hu
     replace R_C := Aside0.mk (row_updT zz15 zz3 zz8 hu)
     replace P_K := Aside0.mk (Sk.updT zz11 zz3 zz8 hu)
     replace P_R := Aside0.mk (Rd.updT zz13 zz3 zz8 hu)
     replace HU := Aside0.mk ((zz7 : Upd S w _).trans hu (fun k hk => .inl zz22))
     clear hu
     clear B_G; have B_G := Aside0.mk hbox; clear hbox
     (try clear hc_G_0 hc_G_1 hc_G_2 hc_G_3 hc_G_4 hc_G_5 hc_G_6)
     have hc_G_0 := co B_G 0 (.pointer (some ⟨gs, 0, none⟩)) rfl; have hc_G_1 := co B_G 1 (.pointer (some ⟨gr, 0, none⟩)) rfl; have hc_G_2 := co B_G 2 (.slice A0 came.length c0) rfl; have hc_G_3 := co B_G 3 (.int .i64 (leaf - 1)) rfl; have hc_G_4 := co B_G 4 (.int .i64 at_) rfl; have hc_G_5 := co B_G 5 (.bool begun) rfl; have hc_G_6 := co B_G 6 (.int .i64 over) rfl)
  | ((with_reducible refine gate_dst (N := 24) rfl ?_)
     refine row_lit k34 34 (N := 24) (xs := [ev 3 at_ h0 b]) (inner := [.int .i64 3, .int .i64 at_, .int .i64 0, .int .i64 0, .bool false, .int .i64 0, .int .u8 b]) rfl ?hd ?hr (reps_one (k34_mkM _ _ _ (ev 3 at_ h0 b)) rfl) zz19 ?_; (case hd => rfl); (case hr => first | (go_simp; done) | (go_simp; rfl))
     intro v2 w3 ho hu
     have ho2 := row_mono ho (fun k hk => hk.elim (fun h => h.elim) (fun h => (.inr (Nat.le_trans (zz7 : Upd S w _).size h) : New w None0 k)))
     replace B_G := Aside0.mk (hu.blk zz3 (fun h => h))
     replace R_C := Aside0.mk (row_upd zz15 hu (fun k hk h => h.elim))
     replace P_K := Aside0.mk (Sk.updN zz11 hu)
     replace P_R := Aside0.mk (Rd.updN zz13 hu)
     replace HU := Aside0.mk ((zz7 : Upd S w _).trans hu (fun _ h => h.elim))
     clear hu
     obtain ⟨A_O, c_O, rfl⟩ := Kd.R_slice ho2
     clear ho; have R_O := Aside0.mk ho2; clear ho2
     (try clear hc_G_0 hc_G_1 hc_G_2 hc_G_3 hc_G_4 hc_G_5 hc_G_6)
     have hc_G_0 := co B_G 0 (.pointer (some ⟨gs, 0, none⟩)) rfl; have hc_G_1 := co B_G 1 (.pointer (some ⟨gr, 0, none⟩)) rfl; have hc_G_2 := co B_G 2 (.slice A0 came.length c0) rfl; have hc_G_3 := co B_G 3 (.int .i64 (leaf - 1)) rfl; have hc_G_4 := co B_G 4 (.int .i64 at_) rfl; have hc_G_5 := co B_G 5 (.bool begun) rfl; have hc_G_6 := co B_G 6 (.int .i64 over) rfl)
  | ((with_reducible refine gate_builtin (b := .append) (xs := #[.tmp 30, .tmp 36]) rfl ?_); at_builtin
     refine row_append (k34) (S := (New w None0)) rfl (.tmp 30) (.tmp 36) 25 34 (.agg #[.int .i64 0, .int .i64 0, .int .i64 0, .int .i64 0, .bool false, .int .i64 0, .int .u8 0]) 56 rfl Try.underlying25 info34 rfl zz8 zz4 (.slice A_O [ev 3 at_ h0 b].length c_O) ([ev 3 at_ h0 b]) (ev 4 at_ h0 0) [.int .i64 4, .int .i64 at_, .int .i64 0, .int .i64 0, .bool false, .int .i64 0, .int .u8 0] rfl rfl ?aP ?aO ?aL [ev 3 at_ h0 b, ev 4 at_ h0 0] rfl ?_
     (case aP => exact k34_mkM _ _ _ _); (case aO => exact (by exact rl R_O)); (case aL => (simp))
     intro v2 w4 ho hu
     have ho2 := row_mono ho (fun k hk => hk.elim id (fun h => .inr (Nat.le_trans (zz7 : Upd S w _).size h)))
     replace B_G := Aside0.mk (hu.blk zz3 (Kd.R_ne R_O.out zz3 zz8))
     replace R_C := Aside0.mk (row_updR zz15 R_O.out zz8 hu)
     replace P_K := Aside0.mk (Sk.updR zz11 R_O.out zz8 hu)
     replace P_R := Aside0.mk (Rd.updR zz13 R_O.out zz8 hu)
     replace HU := Aside0.mk ((zz7 : Upd S w _).trans hu (fun k hk => (row_at R_O.out hk).elim (fun h => h.elim) .inr))
     clear hu
     obtain ⟨A_O4, c_O4, rfl⟩ := Kd.R_slice ho2
     clear R_O ho; have R_O := Aside0.mk ho2; clear ho2
     (try clear hc_G_0 hc_G_1 hc_G_2 hc_G_3 hc_G_4 hc_G_5 hc_G_6)
     have hc_G_0 := co B_G 0 (.pointer (some ⟨gs, 0, none⟩)) rfl; have hc_G_1 := co B_G 1 (.pointer (some ⟨gr, 0, none⟩)) rfl; have hc_G_2 := co B_G 2 (.slice A0 came.length c0) rfl; have hc_G_3 := co B_G 3 (.int .i64 (leaf - 1)) rfl; have hc_G_4 := co B_G 4 (.int .i64 at_) rfl; have hc_G_5 := co B_G 5 (.bool begun) rfl; have hc_G_6 := co B_G 6 (.int .i64 over) rfl))
 go_ret
 rw [EZ.out]
 exact ⟨_, rfl, (by exact rl R_O), ⟨gs, gr, _, S2, S3, .inl IN_G.out, zz3, Sk.mono P_K.out (fun k h => .inl h), P_R.out, R_C.out, fun k h => .inl (H2.out k h), fun k h => .inl (H3.out k h), H23.out⟩, zz7⟩
set_option maxHeartbeats 8000000 in
set_option maxRecDepth 100000 in
theorem mach_beginF (g most : Nat) (x : Int) (r : List Int) (came : List Int) (leaf at_ : Int) (begun : Bool) (over : Int) (h1 h2 : Int) (h3 : Bool) (h4 : Int) (S : Nat → Prop) (w : World) (rc : List Int) (ro : Int) (hM : Mc w S g most ⟨x :: r, came, leaf, at_, begun, over⟩ rc ro) (hh0 : 0 ≤ h4) (hh1 : h4 ≤ 2305843009213693951) (hf : x < h4) :
 Calls Try.prog 73 #[.pointer (some ⟨g, 0, none⟩), .agg #[.int .i64 h1, .int .i64 h2, .bool h3, .int .i64 h4]] w fun e w' => ∃ v, e = .returned (.tuple #[v, .int .i64 5]) ∧ k34.R 34 w' 0 (New w None0) v ([] : List Ev) ∧ Mc w' (New w S) g most ⟨x :: r, came, leaf, at_, begun, over⟩ rc ro ∧ Upd S w w' := by
 obtain ⟨gs, gr, v, S2, S3, hg, hb0, hk0, hr0, hc0, h2, h3, h23⟩ := hM
 obtain ⟨A0, c0, rfl⟩ := Kd.R_slice hc0
 have HU := Aside0.mk (Upd.refl S w)
 have IN_G := Aside0.mk hg
 have B_G := Aside0.mk hb0
 have P_K := Aside0.mk hk0
 have P_R := Aside0.mk hr0
 have R_C := Aside0.mk hc0
 have H2 := Aside0.mk h2
 have H3 := Aside0.mk h3
 have H23 := Aside0.mk h23
 have hu_ := Try.underlying32
 have hu2_ := Try.underlying34
 clear hg hb0 hk0 hr0 hc0 h2 h3 h23
 have f1 : decide ((0 : Int) < (((x :: r).length : Nat) : Int)) = true := decide_eq_true zz19
 have f2 : decide (x < h4) = true := decide_eq_true hf
 clear hf
 have hc_G_0 := co B_G 0 (.pointer (some ⟨gs, 0, none⟩)) rfl; have hc_G_1 := co B_G 1 (.pointer (some ⟨gr, 0, none⟩)) rfl; have hc_G_2 := co B_G 2 (.slice A0 came.length c0) rfl; have hc_G_3 := co B_G 3 (.int .i64 leaf) rfl; have hc_G_4 := co B_G 4 (.int .i64 at_) rfl; have hc_G_5 := co B_G 5 (.bool begun) rfl; have hc_G_6 := co B_G 6 (.int .i64 over) rfl
 go_enter Try.func73, Try.ntmps73
 go_wp2_with (first
  | ((with_reducible refine gate_dst (N := 3) rfl ?_)
     refine boxnew ?hg (N := 3) ?hd (cs := #[.int .i64 h1, .int .i64 h2, .bool h3, .int .i64 h4]) (t := 32) ?hr ?_; (case hd => rfl); (case hg => rfl); (case hr => first | (go_simp; done) | (go_simp; rfl))
     intro g_H hge w1 hbox hu
     have NE_G_H := Aside0.mk (blk_fresh zz3 hge)
     have GE_H := Aside0.mk (Nat.le_trans (zz7 : Upd S w _).size hge)
     replace B_G := Aside0.mk (hu.blk zz3 (fun h => h))
     replace R_C := Aside0.mk (row_upd zz15 hu (fun k hk h => h.elim))
     replace P_K := Aside0.mk (Sk.updN zz11 hu)
     replace P_R := Aside0.mk (Rd.updN zz13 hu)
     replace HU := Aside0.mk ((zz7 : Upd S w _).trans hu (fun _ h => h.elim))
     clear hu
     have B_H := Aside0.mk hbox; clear hbox hge
     (try clear hc_G_0 hc_G_1 hc_G_2 hc_G_3 hc_G_4 hc_G_5 hc_G_6)
     have hc_G_0 := co B_G 0 (.pointer (some ⟨gs, 0, none⟩)) rfl; have hc_G_1 := co B_G 1 (.pointer (some ⟨gr, 0, none⟩)) rfl; have hc_G_2 := co B_G 2 (.slice A0 came.length c0) rfl; have hc_G_3 := co B_G 3 (.int .i64 leaf) rfl; have hc_G_4 := co B_G 4 (.int .i64 at_) rfl; have hc_G_5 := co B_G 5 (.bool begun) rfl; have hc_G_6 := co B_G 6 (.int .i64 over) rfl; have hc_H_0 := co B_H 0 (.int .i64 h1) rfl; have hc_H_1 := co B_H 1 (.int .i64 h2) rfl; have hc_H_2 := co B_H 2 (.bool h3) rfl; have hc_H_3 := co B_H 3 (.int .i64 h4) rfl))
 go_quiet ((first | (go_at_call 57; refine Calls.quiet_of_same (stack_depth gs most (x :: r) S _ ?_); (repeat (first | (with_reducible exact P_K.out) | apply Sk.drew | apply Sk.drewN | apply Sk.alloc))) | (go_at_call 87; refine Calls.quiet_of (stack_leftQ gs most x r S _ ?_); (repeat (first | (with_reducible exact P_K.out) | apply Sk.drew | apply Sk.drewN | apply Sk.alloc)))))
 go_wp2
 go_ret2
 exact ⟨_, rfl, Kd.R_nil _ _ _ _ _, ⟨gs, gr, _, S2, S3, .inl IN_G.out, zz3, Sk.mono zz11 (fun k h => .inl h), zz13, zz15, fun k h => .inl (H2.out k h), fun k h => .inl (H3.out k h), H23.out⟩, zz7⟩
set_option maxHeartbeats 8000000 in
set_option maxRecDepth 100000 in
theorem mach_beginL00 (g most : Nat) (x : Int) (r : List Int) (came : List Int) (leaf at_ : Int) (begun : Bool) (over : Int) (h1 h2 h4 : Int) (S : Nat → Prop) (w : World) (rc : List Int) (ro : Int) (hM : Mc w S g most ⟨x :: r, came, leaf, at_, begun, over⟩ rc ro) (hh0 : 0 ≤ h4) (hh1 : h4 ≤ 2305843009213693951) (hf : h4 ≤ x) (hz : h4 ≠ 0) :
 Calls Try.prog 73 #[.pointer (some ⟨g, 0, none⟩), .agg #[.int .i64 h1, .int .i64 h2, .bool false, .int .i64 h4]] w fun e w' => ∃ v, e = .returned (.tuple #[v, .int .i64 0]) ∧ k34.R 34 w' 0 (New w None0) v ([ev 2 at_ ⟨h1, h2, false, h4⟩ 0] : List Ev) ∧ Mc w' (New w S) g most ⟨x :: r, [], h4, at_, true, over⟩ rc ro ∧ Upd S w w' := by
 obtain ⟨gs, gr, v, S2, S3, hg, hb0, hk0, hr0, hc0, h2, h3, h23⟩ := hM
 obtain ⟨A0, c0, rfl⟩ := Kd.R_slice hc0
 have HU := Aside0.mk (Upd.refl S w)
 have IN_G := Aside0.mk hg
 have B_G := Aside0.mk hb0
 have P_K := Aside0.mk hk0
 have P_R := Aside0.mk hr0
 have R_C := Aside0.mk hc0
 have H2 := Aside0.mk h2
 have H3 := Aside0.mk h3
 have H23 := Aside0.mk h23
 have hu_ := Try.underlying32
 have hu2_ := Try.underlying34
 clear hg hb0 hk0 hr0 hc0 h2 h3 h23
 have f1 : decide ((0 : Int) < (((x :: r).length : Nat) : Int)) = true := decide_eq_true zz19
 have f2 : decide (x < h4) = false := decide_eq_false zz4
 clear hf
 have c1 : (h4 == 0) = false := beq_eq_false_iff_ne.2 hz
 clear hz
 have hc_G_0 := co B_G 0 (.pointer (some ⟨gs, 0, none⟩)) rfl; have hc_G_1 := co B_G 1 (.pointer (some ⟨gr, 0, none⟩)) rfl; have hc_G_2 := co B_G 2 (.slice A0 came.length c0) rfl; have hc_G_3 := co B_G 3 (.int .i64 leaf) rfl; have hc_G_4 := co B_G 4 (.int .i64 at_) rfl; have hc_G_5 := co B_G 5 (.bool begun) rfl; have hc_G_6 := co B_G 6 (.int .i64 over) rfl
 go_enter Try.func73, Try.ntmps73
 go_wp2_with (first
  | ((with_reducible refine gate_dst (N := 3) rfl ?_)
     refine boxnew ?hg (N := 3) ?hd (cs := #[.int .i64 h1, .int .i64 h2, .bool false, .int .i64 h4]) (t := 32) ?hr ?_; (case hd => rfl); (case hg => rfl); (case hr => first | (go_simp; done) | (go_simp; rfl))
     intro g_H hge w1 hbox hu
     have NE_G_H := Aside0.mk (blk_fresh zz3 hge)
     have GE_H := Aside0.mk (Nat.le_trans (zz7 : Upd S w _).size hge)
     replace B_G := Aside0.mk (hu.blk zz3 (fun h => h))
     replace R_C := Aside0.mk (row_upd zz15 hu (fun k hk h => h.elim))
     replace P_K := Aside0.mk (Sk.updN zz11 hu)
     replace P_R := Aside0.mk (Rd.updN zz13 hu)
     replace HU := Aside0.mk ((zz7 : Upd S w _).trans hu (fun _ h => h.elim))
     clear hu
     have B_H := Aside0.mk hbox; clear hbox hge
     (try clear hc_G_0 hc_G_1 hc_G_2 hc_G_3 hc_G_4 hc_G_5 hc_G_6)
     have hc_G_0 := co B_G 0 (.pointer (some ⟨gs, 0, none⟩)) rfl; have hc_G_1 := co B_G 1 (.pointer (some ⟨gr, 0, none⟩)) rfl; have hc_G_2 := co B_G 2 (.slice A0 came.length c0) rfl; have hc_G_3 := co B_G 3 (.int .i64 leaf) rfl; have hc_G_4 := co B_G 4 (.int .i64 at_) rfl; have hc_G_5 := co B_G 5 (.bool begun) rfl; have hc_G_6 := co B_G 6 (.int .i64 over) rfl; have hc_H_0 := co B_H 0 (.int .i64 h1) rfl; have hc_H_1 := co B_H 1 (.int .i64 h2) rfl; have hc_H_2 := co B_H 2 (.bool false) rfl; have hc_H_3 := co B_H 3 (.int .i64 h4) rfl))
 go_quiet ((first | (go_at_call 57; refine Calls.quiet_of_same (stack_depth gs most (x :: r) S _ ?_); (repeat (first | (with_reducible exact P_K.out) | apply Sk.drew | apply Sk.drewN | apply Sk.alloc))) | (go_at_call 87; refine Calls.quiet_of (stack_leftQ gs most x r S _ ?_); (repeat (first | (with_reducible exact P_K.out) | apply Sk.drew | apply Sk.drewN | apply Sk.alloc)))))
 go_wp2_with (first
  | ((with_reducible refine gate_store (t := 124) (p := 31) (v := .tmp 29) rfl ?_)
     refine cellput rfl 124 (.tmp 31) (.tmp 29) rfl rfl g 2 (.slice A0 0 c0) rfl rfl 126 #[.pointer (some ⟨gs, 0, none⟩), .pointer (some ⟨gr, 0, none⟩), .slice A0 came.length c0, .int .i64 leaf, .int .i64 at_, .bool begun, .int .i64 over] #[.pointer (some ⟨gs, 0, none⟩), .pointer (some ⟨gr, 0, none⟩), .slice A0 0 c0, .int .i64 leaf, .int .i64 at_, .bool begun, .int .i64 over] zz3 zz5 zz19 rfl rfl ?_
     intro w2 hbox hu
     replace B_H := Aside0.mk (hu.blk zz18 (Ne.symm NE_G_H.out))
     replace R_C := Aside0.mk (row_updT zz15 zz3 zz8 hu)
     replace P_K := Aside0.mk (Sk.updT zz11 zz3 zz8 hu)
     replace P_R := Aside0.mk (Rd.updT zz13 zz3 zz8 hu)
     replace HU := Aside0.mk ((zz7 : Upd S w _).trans hu (fun k hk => .inl zz22))
     clear hu
     clear B_G; have B_G := Aside0.mk hbox; clear hbox
     (try clear hc_G_0 hc_G_1 hc_G_2 hc_G_3 hc_G_4 hc_G_5 hc_G_6 hc_H_0 hc_H_1 hc_H_2 hc_H_3)
     have hc_G_0 := co B_G 0 (.pointer (some ⟨gs, 0, none⟩)) rfl; have hc_G_1 := co B_G 1 (.pointer (some ⟨gr, 0, none⟩)) rfl; have hc_G_2 := co B_G 2 (.slice A0 0 c0) rfl; have hc_G_3 := co B_G 3 (.int .i64 leaf) rfl; have hc_G_4 := co B_G 4 (.int .i64 at_) rfl; have hc_G_5 := co B_G 5 (.bool begun) rfl; have hc_G_6 := co B_G 6 (.int .i64 over) rfl; have hc_H_0 := co B_H 0 (.int .i64 h1) rfl; have hc_H_1 := co B_H 1 (.int .i64 h2) rfl; have hc_H_2 := co B_H 2 (.bool false) rfl; have hc_H_3 := co B_H 3 (.int .i64 h4) rfl)
  | ((with_reducible refine gate_store (t := 4) (p := 56) (v := .const (.bool true)) rfl ?_)
     refine cellput rfl 4 (.tmp 56) (.const (.bool true)) rfl rfl g 5 (.bool true) rfl rfl 126 #[.pointer (some ⟨gs, 0, none⟩), .pointer (some ⟨gr, 0, none⟩), .slice A0 0 c0, .int .i64 leaf, .int .i64 at_, .bool begun, .int .i64 over] #[.pointer (some ⟨gs, 0, none⟩), .pointer (some ⟨gr, 0, none⟩), .slice A0 0 c0, .int .i64 leaf, .int .i64 at_, .bool true, .int .i64 over] zz3 zz5 zz19 rfl rfl ?_
     intro w3 hbox hu
     replace B_H := Aside0.mk (hu.blk zz18 (Ne.symm NE_G_H.out))
     replace R_C := Aside0.mk (row_updT zz15 zz3 zz8 hu)
     replace P_K := Aside0.mk (Sk.updT zz11 zz3 zz8 hu)
     replace P_R := Aside0.mk (Rd.updT zz13 zz3 zz8 hu)
     replace HU := Aside0.mk ((zz7 : Upd S w _).trans hu (fun k hk => .inl zz22))
     clear hu
     clear B_G; have B_G := Aside0.mk hbox; clear hbox
     (try clear hc_G_0 hc_G_1 hc_G_2 hc_G_3 hc_G_4 hc_G_5 hc_G_6 hc_H_0 hc_H_1 hc_H_2 hc_H_3)
     have hc_G_0 := co B_G 0 (.pointer (some ⟨gs, 0, none⟩)) rfl; have hc_G_1 := co B_G 1 (.pointer (some ⟨gr, 0, none⟩)) rfl; have hc_G_2 := co B_G 2 (.slice A0 0 c0) rfl; have hc_G_3 := co B_G 3 (.int .i64 leaf) rfl; have hc_G_4 := co B_G 4 (.int .i64 at_) rfl; have hc_G_5 := co B_G 5 (.bool true) rfl; have hc_G_6 := co B_G 6 (.int .i64 over) rfl; have hc_H_0 := co B_H 0 (.int .i64 h1) rfl; have hc_H_1 := co B_H 1 (.int .i64 h2) rfl; have hc_H_2 := co B_H 2 (.bool false) rfl; have hc_H_3 := co B_H 3 (.int .i64 h4) rfl)
  | ((with_reducible refine gate_store (t := 3) (p := 61) (v := .tmp 59) rfl ?_)
     refine cellput rfl 3 (.tmp 61) (.tmp 59) rfl rfl g 3 (.int .i64 h4) rfl rfl 126 #[.pointer (some ⟨gs, 0, none⟩), .pointer (some ⟨gr, 0, none⟩), .slice A0 0 c0, .int .i64 leaf, .int .i64 at_, .bool true, .int .i64 over] #[.pointer (some ⟨gs, 0, none⟩), .pointer (some ⟨gr, 0, none⟩), .slice A0 0 c0, .int .i64 h4, .int .i64 at_, .bool true, .int .i64 over] zz3 zz5 zz19 rfl rfl ?_
     intro w4 hbox hu
     replace B_H := Aside0.mk (hu.blk zz18 (Ne.symm NE_G_H.out))
     replace R_C := Aside0.mk (row_updT zz15 zz3 zz8 hu)
     replace P_K := Aside0.mk (Sk.updT zz11 zz3 zz8 hu)
     replace P_R := Aside0.mk (Rd.updT zz13 zz3 zz8 hu)
     replace HU := Aside0.mk ((zz7 : Upd S w _).trans hu (fun k hk => .inl zz22))
     clear hu
     clear B_G; have B_G := Aside0.mk hbox; clear hbox
     (try clear hc_G_0 hc_G_1 hc_G_2 hc_G_3 hc_G_4 hc_G_5 hc_G_6 hc_H_0 hc_H_1 hc_H_2 hc_H_3)
     have hc_G_0 := co B_G 0 (.pointer (some ⟨gs, 0, none⟩)) rfl; have hc_G_1 := co B_G 1 (.pointer (some ⟨gr, 0, none⟩)) rfl; have hc_G_2 := co B_G 2 (.slice A0 0 c0) rfl; have hc_G_3 := co B_G 3 (.int .i64 h4) rfl; have hc_G_4 := co B_G 4 (.int .i64 at_) rfl; have hc_G_5 := co B_G 5 (.bool true) rfl; have hc_G_6 := co B_G 6 (.int .i64 over) rfl; have hc_H_0 := co B_H 0 (.int .i64 h1) rfl; have hc_H_1 := co B_H 1 (.int .i64 h2) rfl; have hc_H_2 := co B_H 2 (.bool false) rfl; have hc_H_3 := co B_H 3 (.int .i64 h4) rfl))
 go_region
 have hu : Upd None0 w4 ((w4.alloc (.cells #[.int .i64 2, .int .i64 at_, .int .i64 h1, .int .i64 h2, .bool false, .int .i64 h4, .int .u8 0] 34)).drew) := ((Upd.refl None0 w4).alloc _).drew
 have ho2 : k34.R 34 ((w4.alloc (.cells #[.int .i64 2, .int .i64 at_, .int .i64 h1, .int .i64 h2, .bool false, .int .i64 h4, .int .u8 0] 34)).drew) 0 (New w None0) (.slice (some ⟨w4.heap.size, 0, none⟩) 1 1) [ev 2 at_ ⟨h1, h2, false, h4⟩ 0] := row_mono (Kd.R_drew (row_alloc k34 w4 34 (xs := [ev 2 at_ ⟨h1, h2, false, h4⟩ 0]) (inner := [.int .i64 2, .int .i64 at_, .int .i64 h1, .int .i64 h2, .bool false, .int .i64 h4, .int .u8 0]) (reps_one (k34_mkM _ _ _ (ev 2 at_ ⟨h1, h2, false, h4⟩ 0)) rfl) zz19)) (fun k hk => hk.elim (fun h => h.elim) (fun h => .inr (Nat.le_trans (zz7 : Upd S w _).size h)))
 replace B_G := Aside0.mk (hu.blk zz3 (fun h => h))
 replace B_H := Aside0.mk (hu.blk zz18 (fun h => h))
 replace R_C := Aside0.mk (row_upd zz15 hu (fun k hk h => h.elim))
 replace P_K := Aside0.mk (Sk.updN zz11 hu)
 replace P_R := Aside0.mk (Rd.updN zz13 hu)
 replace HU := Aside0.mk ((zz7 : Upd S w _).trans hu (fun _ h => h.elim))
 clear hu
 have R_O := Aside0.mk ho2; clear ho2
 generalize (w4.alloc (.cells #[.int .i64 2, .int .i64 at_, .int .i64 h1, .int .i64 h2, .bool false, .int .i64 h4, .int .u8 0] 34)).drew = w5 at *
 (try clear hc_G_0 hc_G_1 hc_G_2 hc_G_3 hc_G_4 hc_G_5 hc_G_6 hc_H_0 hc_H_1 hc_H_2 hc_H_3)
 have hc_G_0 := co B_G 0 (.pointer (some ⟨gs, 0, none⟩)) rfl; have hc_G_1 := co B_G 1 (.pointer (some ⟨gr, 0, none⟩)) rfl; have hc_G_2 := co B_G 2 (.slice A0 0 c0) rfl; have hc_G_3 := co B_G 3 (.int .i64 h4) rfl; have hc_G_4 := co B_G 4 (.int .i64 at_) rfl; have hc_G_5 := co B_G 5 (.bool true) rfl; have hc_G_6 := co B_G 6 (.int .i64 over) rfl; have hc_H_0 := co B_H 0 (.int .i64 h1) rfl; have hc_H_1 := co B_H 1 (.int .i64 h2) rfl; have hc_H_2 := co B_H 2 (.bool false) rfl; have hc_H_3 := co B_H 3 (.int .i64 h4) rfl
 go_wp2
 go_ret2
 exact ⟨_, rfl, (by exact rl R_O), ⟨gs, gr, _, S2, S3, .inl IN_G.out, zz3, Sk.mono zz11 (fun k h => .inl h), zz13, (Kd.R_take (m := 0) zz15 (Nat.zero_le _)), fun k h => .inl (H2.out k h), fun k h => .inl (H3.out k h), H23.out⟩, zz7⟩
set_option maxHeartbeats 8000000 in
set_option maxRecDepth 100000 in
theorem mach_beginL01 (g most : Nat) (x : Int) (r : List Int) (came : List Int) (leaf at_ : Int) (begun : Bool) (over : Int) (h1 h2 h4 : Int) (S : Nat → Prop) (w : World) (rc : List Int) (ro : Int) (hM : Mc w S g most ⟨x :: r, came, leaf, at_, begun, over⟩ rc ro) (hh0 : 0 ≤ h4) (hh1 : h4 ≤ 2305843009213693951) (hf : h4 ≤ x) (hz : h4 = 0) :
 Calls Try.prog 73 #[.pointer (some ⟨g, 0, none⟩), .agg #[.int .i64 h1, .int .i64 h2, .bool false, .int .i64 h4]] w fun e w' => ∃ v, e = .returned (.tuple #[v, .int .i64 0]) ∧ k34.R 34 w' 0 (New w None0) v ([ev 2 at_ ⟨h1, h2, false, h4⟩ 0, ev 4 at_ h0 0] : List Ev) ∧ Mc w' (New w S) g most ⟨x :: r, [], h4, at_, true, over⟩ rc ro ∧ Upd S w w' := by
 obtain ⟨gs, gr, v, S2, S3, hg, hb0, hk0, hr0, hc0, h2, h3, h23⟩ := hM
 obtain ⟨A0, c0, rfl⟩ := Kd.R_slice hc0
 have HU := Aside0.mk (Upd.refl S w)
 have IN_G := Aside0.mk hg
 have B_G := Aside0.mk hb0
 have P_K := Aside0.mk hk0
 have P_R := Aside0.mk hr0
 have R_C := Aside0.mk hc0
 have H2 := Aside0.mk h2
 have H3 := Aside0.mk h3
 have H23 := Aside0.mk h23
 have hu_ := Try.underlying32
 have hu2_ := Try.underlying34
 clear hg hb0 hk0 hr0 hc0 h2 h3 h23
 have f1 : decide ((0 : Int) < (((x :: r).length : Nat) : Int)) = true := decide_eq_true zz19
 have f2 : decide (x < h4) = false := decide_eq_false zz4
 clear hf
 have c1 : (h4 == 0) = true := beq_iff_eq.2 hz
 clear hz
 have hc_G_0 := co B_G 0 (.pointer (some ⟨gs, 0, none⟩)) rfl; have hc_G_1 := co B_G 1 (.pointer (some ⟨gr, 0, none⟩)) rfl; have hc_G_2 := co B_G 2 (.slice A0 came.length c0) rfl; have hc_G_3 := co B_G 3 (.int .i64 leaf) rfl; have hc_G_4 := co B_G 4 (.int .i64 at_) rfl; have hc_G_5 := co B_G 5 (.bool begun) rfl; have hc_G_6 := co B_G 6 (.int .i64 over) rfl
 go_enter Try.func73, Try.ntmps73
 go_wp2_with (first
  | ((with_reducible refine gate_dst (N := 3) rfl ?_)
     refine boxnew ?hg (N := 3) ?hd (cs := #[.int .i64 h1, .int .i64 h2, .bool false, .int .i64 h4]) (t := 32) ?hr ?_; (case hd => rfl); (case hg => rfl); (case hr => first | (go_simp; done) | (go_simp; rfl))
     intro g_H hge w1 hbox hu
     have NE_G_H := Aside0.mk (blk_fresh zz3 hge)
     have GE_H := Aside0.mk (Nat.le_trans (zz7 : Upd S w _).size hge)
     replace B_G := Aside0.mk (hu.blk zz3 (fun h => h))
     replace R_C := Aside0.mk (row_upd zz15 hu (fun k hk h => h.elim))
     replace P_K := Aside0.mk (Sk.updN zz11 hu)
     replace P_R := Aside0.mk (Rd.updN zz13 hu)
     replace HU := Aside0.mk ((zz7 : Upd S w _).trans hu (fun _ h => h.elim))
     clear hu
     have B_H := Aside0.mk hbox; clear hbox hge
     (try clear hc_G_0 hc_G_1 hc_G_2 hc_G_3 hc_G_4 hc_G_5 hc_G_6)
     have hc_G_0 := co B_G 0 (.pointer (some ⟨gs, 0, none⟩)) rfl; have hc_G_1 := co B_G 1 (.pointer (some ⟨gr, 0, none⟩)) rfl; have hc_G_2 := co B_G 2 (.slice A0 came.length c0) rfl; have hc_G_3 := co B_G 3 (.int .i64 leaf) rfl; have hc_G_4 := co B_G 4 (.int .i64 at_) rfl; have hc_G_5 := co B_G 5 (.bool begun) rfl; have hc_G_6 := co B_G 6 (.int .i64 over) rfl; have hc_H_0 := co B_H 0 (.int .i64 h1) rfl; have hc_H_1 := co B_H 1 (.int .i64 h2) rfl; have hc_H_2 := co B_H 2 (.bool false) rfl; have hc_H_3 := co B_H 3 (.int .i64 h4) rfl))
 go_quiet ((first | (go_at_call 57; refine Calls.quiet_of_same (stack_depth gs most (x :: r) S _ ?_); (repeat (first | (with_reducible exact P_K.out) | apply Sk.drew | apply Sk.drewN | apply Sk.alloc))) | (go_at_call 87; refine Calls.quiet_of (stack_leftQ gs most x r S _ ?_); (repeat (first | (with_reducible exact P_K.out) | apply Sk.drew | apply Sk.drewN | apply Sk.alloc)))))
 go_wp2_with (first
  | ((with_reducible refine gate_store (t := 124) (p := 31) (v := .tmp 29) rfl ?_)
     refine cellput rfl 124 (.tmp 31) (.tmp 29) rfl rfl g 2 (.slice A0 0 c0) rfl rfl 126 #[.pointer (some ⟨gs, 0, none⟩), .pointer (some ⟨gr, 0, none⟩), .slice A0 came.length c0, .int .i64 leaf, .int .i64 at_, .bool begun, .int .i64 over] #[.pointer (some ⟨gs, 0, none⟩), .pointer (some ⟨gr, 0, none⟩), .slice A0 0 c0, .int .i64 leaf, .int .i64 at_, .bool begun, .int .i64 over] zz3 zz5 zz19 rfl rfl ?_
     intro w2 hbox hu
     replace B_H := Aside0.mk (hu.blk zz18 (Ne.symm NE_G_H.out))
     replace R_C := Aside0.mk (row_updT zz15 zz3 zz8 hu)
     replace P_K := Aside0.mk (Sk.updT zz11 zz3 zz8 hu)
     replace P_R := Aside0.mk (Rd.updT zz13 zz3 zz8 hu)
     replace HU := Aside0.mk ((zz7 : Upd S w _).trans hu (fun k hk => .inl zz22))
     clear hu
     clear B_G; have B_G := Aside0.mk hbox; clear hbox
     (try clear hc_G_0 hc_G_1 hc_G_2 hc_G_3 hc_G_4 hc_G_5 hc_G_6 hc_H_0 hc_H_1 hc_H_2 hc_H_3)
     have hc_G_0 := co B_G 0 (.pointer (some ⟨gs, 0, none⟩)) rfl; have hc_G_1 := co B_G 1 (.pointer (some ⟨gr, 0, none⟩)) rfl; have hc_G_2 := co B_G 2 (.slice A0 0 c0) rfl; have hc_G_3 := co B_G 3 (.int .i64 leaf) rfl; have hc_G_4 := co B_G 4 (.int .i64 at_) rfl; have hc_G_5 := co B_G 5 (.bool begun) rfl; have hc_G_6 := co B_G 6 (.int .i64 over) rfl; have hc_H_0 := co B_H 0 (.int .i64 h1) rfl; have hc_H_1 := co B_H 1 (.int .i64 h2) rfl; have hc_H_2 := co B_H 2 (.bool false) rfl; have hc_H_3 := co B_H 3 (.int .i64 h4) rfl)
  | ((with_reducible refine gate_store (t := 4) (p := 56) (v := .const (.bool true)) rfl ?_)
     refine cellput rfl 4 (.tmp 56) (.const (.bool true)) rfl rfl g 5 (.bool true) rfl rfl 126 #[.pointer (some ⟨gs, 0, none⟩), .pointer (some ⟨gr, 0, none⟩), .slice A0 0 c0, .int .i64 leaf, .int .i64 at_, .bool begun, .int .i64 over] #[.pointer (some ⟨gs, 0, none⟩), .pointer (some ⟨gr, 0, none⟩), .slice A0 0 c0, .int .i64 leaf, .int .i64 at_, .bool true, .int .i64 over] zz3 zz5 zz19 rfl rfl ?_
     intro w3 hbox hu
     replace B_H := Aside0.mk (hu.blk zz18 (Ne.symm NE_G_H.out))
     replace R_C := Aside0.mk (row_updT zz15 zz3 zz8 hu)
     replace P_K := Aside0.mk (Sk.updT zz11 zz3 zz8 hu)
     replace P_R := Aside0.mk (Rd.updT zz13 zz3 zz8 hu)
     replace HU := Aside0.mk ((zz7 : Upd S w _).trans hu (fun k hk => .inl zz22))
     clear hu
     clear B_G; have B_G := Aside0.mk hbox; clear hbox
     (try clear hc_G_0 hc_G_1 hc_G_2 hc_G_3 hc_G_4 hc_G_5 hc_G_6 hc_H_0 hc_H_1 hc_H_2 hc_H_3)
     have hc_G_0 := co B_G 0 (.pointer (some ⟨gs, 0, none⟩)) rfl; have hc_G_1 := co B_G 1 (.pointer (some ⟨gr, 0, none⟩)) rfl; have hc_G_2 := co B_G 2 (.slice A0 0 c0) rfl; have hc_G_3 := co B_G 3 (.int .i64 leaf) rfl; have hc_G_4 := co B_G 4 (.int .i64 at_) rfl; have hc_G_5 := co B_G 5 (.bool true) rfl; have hc_G_6 := co B_G 6 (.int .i64 over) rfl; have hc_H_0 := co B_H 0 (.int .i64 h1) rfl; have hc_H_1 := co B_H 1 (.int .i64 h2) rfl; have hc_H_2 := co B_H 2 (.bool false) rfl; have hc_H_3 := co B_H 3 (.int .i64 h4) rfl)
  | ((with_reducible refine gate_store (t := 3) (p := 61) (v := .tmp 59) rfl ?_)
     refine cellput rfl 3 (.tmp 61) (.tmp 59) rfl rfl g 3 (.int .i64 h4) rfl rfl 126 #[.pointer (some ⟨gs, 0, none⟩), .pointer (some ⟨gr, 0, none⟩), .slice A0 0 c0, .int .i64 leaf, .int .i64 at_, .bool true, .int .i64 over] #[.pointer (some ⟨gs, 0, none⟩), .pointer (some ⟨gr, 0, none⟩), .slice A0 0 c0, .int .i64 h4, .int .i64 at_, .bool true, .int .i64 over] zz3 zz5 zz19 rfl rfl ?_
     intro w4 hbox hu
     replace B_H := Aside0.mk (hu.blk zz18 (Ne.symm NE_G_H.out))
     replace R_C := Aside0.mk (row_updT zz15 zz3 zz8 hu)
     replace P_K := Aside0.mk (Sk.updT zz11 zz3 zz8 hu)
     replace P_R := Aside0.mk (Rd.updT zz13 zz3 zz8 hu)
     replace HU := Aside0.mk ((zz7 : Upd S w _).trans hu (fun k hk => .inl zz22))
     clear hu
     clear B_G; have B_G := Aside0.mk hbox; clear hbox
     (try clear hc_G_0 hc_G_1 hc_G_2 hc_G_3 hc_G_4 hc_G_5 hc_G_6 hc_H_0 hc_H_1 hc_H_2 hc_H_3)
     have hc_G_0 := co B_G 0 (.pointer (some ⟨gs, 0, none⟩)) rfl; have hc_G_1 := co B_G 1 (.pointer (some ⟨gr, 0, none⟩)) rfl; have hc_G_2 := co B_G 2 (.slice A0 0 c0) rfl; have hc_G_3 := co B_G 3 (.int .i64 h4) rfl; have hc_G_4 := co B_G 4 (.int .i64 at_) rfl; have hc_G_5 := co B_G 5 (.bool true) rfl; have hc_G_6 := co B_G 6 (.int .i64 over) rfl; have hc_H_0 := co B_H 0 (.int .i64 h1) rfl; have hc_H_1 := co B_H 1 (.int .i64 h2) rfl; have hc_H_2 := co B_H 2 (.bool false) rfl; have hc_H_3 := co B_H 3 (.int .i64 h4) rfl))
 go_region
 have hu : Upd None0 w4 ((w4.alloc (.cells #[.int .i64 2, .int .i64 at_, .int .i64 h1, .int .i64 h2, .bool false, .int .i64 h4, .int .u8 0] 34)).drew) := ((Upd.refl None0 w4).alloc _).drew
 have ho2 : k34.R 34 ((w4.alloc (.cells #[.int .i64 2, .int .i64 at_, .int .i64 h1, .int .i64 h2, .bool false, .int .i64 h4, .int .u8 0] 34)).drew) 0 (New w None0) (.slice (some ⟨w4.heap.size, 0, none⟩) 1 1) [ev 2 at_ ⟨h1, h2, false, h4⟩ 0] := row_mono (Kd.R_drew (row_alloc k34 w4 34 (xs := [ev 2 at_ ⟨h1, h2, false, h4⟩ 0]) (inner := [.int .i64 2, .int .i64 at_, .int .i64 h1, .int .i64 h2, .bool false, .int .i64 h4, .int .u8 0]) (reps_one (k34_mkM _ _ _ (ev 2 at_ ⟨h1, h2, false, h4⟩ 0)) rfl) zz19)) (fun k hk => hk.elim (fun h => h.elim) (fun h => .inr (Nat.le_trans (zz7 : Upd S w _).size h)))
 replace B_G := Aside0.mk (hu.blk zz3 (fun h => h))
 replace B_H := Aside0.mk (hu.blk zz18 (fun h => h))
 replace R_C := Aside0.mk (row_upd zz15 hu (fun k hk h => h.elim))
 replace P_K := Aside0.mk (Sk.updN zz11 hu)
 replace P_R := Aside0.mk (Rd.updN zz13 hu)
 replace HU := Aside0.mk ((zz7 : Upd S w _).trans hu (fun _ h => h.elim))
 clear hu
 have R_O := Aside0.mk ho2; clear ho2
 generalize (w4.alloc (.cells #[.int .i64 2, .int .i64 at_, .int .i64 h1, .int .i64 h2, .bool false, .int .i64 h4, .int .u8 0] 34)).drew = w5 at *
 (try clear hc_G_0 hc_G_1 hc_G_2 hc_G_3 hc_G_4 hc_G_5 hc_G_6 hc_H_0 hc_H_1 hc_H_2 hc_H_3)
 have hc_G_0 := co B_G 0 (.pointer (some ⟨gs, 0, none⟩)) rfl; have hc_G_1 := co B_G 1 (.pointer (some ⟨gr, 0, none⟩)) rfl; have hc_G_2 := co B_G 2 (.slice A0 0 c0) rfl; have hc_G_3 := co B_G 3 (.int .i64 h4) rfl; have hc_G_4 := co B_G 4 (.int .i64 at_) rfl; have hc_G_5 := co B_G 5 (.bool true) rfl; have hc_G_6 := co B_G 6 (.int .i64 over) rfl; have hc_H_0 := co B_H 0 (.int .i64 h1) rfl; have hc_H_1 := co B_H 1 (.int .i64 h2) rfl; have hc_H_2 := co B_H 2 (.bool false) rfl; have hc_H_3 := co B_H 3 (.int .i64 h4) rfl
 go_wp2_with (first
  | ((with_reducible refine gate_builtin (b := .append) (xs := #[.tmp 72, .tmp 78]) rfl ?_); at_builtin
     refine row_append (k34) (S := (New w None0)) rfl (.tmp 72) (.tmp 78) 25 34 (.agg #[.int .i64 0, .int .i64 0, .int .i64 0, .int .i64 0, .bool false, .int .i64 0, .int .u8 0]) 56 rfl Try.underlying25 info34 rfl zz8 zz4 (.slice (some ⟨w4.heap.size, 0, none⟩) 1 1) ([ev 2 at_ ⟨h1, h2, false, h4⟩ 0]) (ev 4 at_ h0 0) [.int .i64 4, .int .i64 at_, .int .i64 0, .int .i64 0, .bool false, .int .i64 0, .int .u8 0] rfl rfl ?aP ?aO ?aL [ev 2 at_ ⟨h1, h2, false, h4⟩ 0, ev 4 at_ h0 0] rfl ?_
     (case aP => exact k34_mkM _ _ _ _); (case aO => exact (by exact rl R_O)); (case aL => (simp))
     intro v2 w6 ho hu
     have ho2 := row_mono ho (fun k hk => hk.elim id (fun h => .inr (Nat.le_trans (zz7 : Upd S w _).size h)))
     replace B_G := Aside0.mk (hu.blk zz3 (Kd.R_ne R_O.out zz3 zz8))
     replace B_H := Aside0.mk (hu.blk zz18 (Kd.R_ne R_O.out zz18 zz8))
     replace R_C := Aside0.mk (row_updR zz15 R_O.out zz8 hu)
     replace P_K := Aside0.mk (Sk.updR zz11 R_O.out zz8 hu)
     replace P_R := Aside0.mk (Rd.updR zz13 R_O.out zz8 hu)
     replace HU := Aside0.mk ((zz7 : Upd S w _).trans hu (fun k hk => (row_at R_O.out hk).elim (fun h => h.elim) .inr))
     clear hu
     obtain ⟨A_O6, c_O6, rfl⟩ := Kd.R_slice ho2
     clear R_O ho; have R_O := Aside0.mk ho2; clear ho2
     (try clear hc_G_0 hc_G_1 hc_G_2 hc_G_3 hc_G_4 hc_G_5 hc_G_6 hc_H_0 hc_H_1 hc_H_2 hc_H_3)
     have hc_G_0 := co B_G 0 (.pointer (some ⟨gs, 0, none⟩)) rfl; have hc_G_1 := co B_G 1 (.pointer (some ⟨gr, 0, none⟩)) rfl; have hc_G_2 := co B_G 2 (.slice A0 0 c0) rfl; have hc_G_3 := co B_G 3 (.int .i64 h4) rfl; have hc_G_4 := co B_G 4 (.int .i64 at_) rfl; have hc_G_5 := co B_G 5 (.bool true) rfl; have hc_G_6 := co B_G 6 (.int .i64 over) rfl; have hc_H_0 := co B_H 0 (.int .i64 h1) rfl; have hc_H_1 := co B_H 1 (.int .i64 h2) rfl; have hc_H_2 := co B_H 2 (.bool false) rfl; have hc_H_3 := co B_H 3 (.int .i64 h4) rfl))
 go_ret2
 exact ⟨_, rfl, (by exact rl R_O), ⟨gs, gr, _, S2, S3, .inl IN_G.out, zz3, Sk.mono zz11 (fun k h => .inl h), zz13, (Kd.R_take (m := 0) zz15 (Nat.zero_le _)), fun k h => .inl (H2.out k h), fun k h => .inl (H3.out k h), H23.out⟩, zz7⟩
set_option maxHeartbeats 8000000 in
set_option maxRecDepth 100000 in
theorem mach_beginL10 (g most : Nat) (came : List Int) (leaf at_ : Int) (begun : Bool) (over : Int) (h1 h2 h4 : Int) (S : Nat → Prop) (w : World) (rc : List Int) (ro : Int) (hM : Mc w S g most ⟨[], came, leaf, at_, begun, over⟩ rc ro) (hh0 : 0 ≤ h4) (hh1 : h4 ≤ 2305843009213693951) (hz : h4 ≠ 0) :
 Calls Try.prog 73 #[.pointer (some ⟨g, 0, none⟩), .agg #[.int .i64 h1, .int .i64 h2, .bool false, .int .i64 h4]] w fun e w' => ∃ v, e = .returned (.tuple #[v, .int .i64 0]) ∧ k34.R 34 w' 0 (New w None0) v ([ev 2 at_ ⟨h1, h2, false, h4⟩ 0] : List Ev) ∧ Mc w' (New w S) g most ⟨[], [], h4, at_, true, over⟩ rc ro ∧ Upd S w w' := by
 obtain ⟨gs, gr, v, S2, S3, hg, hb0, hk0, hr0, hc0, h2, h3, h23⟩ := hM
 obtain ⟨A0, c0, rfl⟩ := Kd.R_slice hc0
 have HU := Aside0.mk (Upd.refl S w)
 have IN_G := Aside0.mk hg
 have B_G := Aside0.mk hb0
 have P_K := Aside0.mk hk0
 have P_R := Aside0.mk hr0
 have R_C := Aside0.mk hc0
 have H2 := Aside0.mk h2
 have H3 := Aside0.mk h3
 have H23 := Aside0.mk h23
 have hu_ := Try.underlying32
 have hu2_ := Try.underlying34
 clear hg hb0 hk0 hr0 hc0 h2 h3 h23
 have c1 : (h4 == 0) = false := beq_eq_false_iff_ne.2 hz
 clear hz
 have hc_G_0 := co B_G 0 (.pointer (some ⟨gs, 0, none⟩)) rfl; have hc_G_1 := co B_G 1 (.pointer (some ⟨gr, 0, none⟩)) rfl; have hc_G_2 := co B_G 2 (.slice A0 came.length c0) rfl; have hc_G_3 := co B_G 3 (.int .i64 leaf) rfl; have hc_G_4 := co B_G 4 (.int .i64 at_) rfl; have hc_G_5 := co B_G 5 (.bool begun) rfl; have hc_G_6 := co B_G 6 (.int .i64 over) rfl
 go_enter Try.func73, Try.ntmps73
 go_wp2_with (first
  | ((with_reducible refine gate_dst (N := 3) rfl ?_)
     refine boxnew ?hg (N := 3) ?hd (cs := #[.int .i64 h1, .int .i64 h2, .bool false, .int .i64 h4]) (t := 32) ?hr ?_; (case hd => rfl); (case hg => rfl); (case hr => first | (go_simp; done) | (go_simp; rfl))
     intro g_H hge w1 hbox hu
     have NE_G_H := Aside0.mk (blk_fresh zz3 hge)
     have GE_H := Aside0.mk (Nat.le_trans (zz7 : Upd S w _).size hge)
     replace B_G := Aside0.mk (hu.blk zz3 (fun h => h))
     replace R_C := Aside0.mk (row_upd zz15 hu (fun k hk h => h.elim))
     replace P_K := Aside0.mk (Sk.updN zz11 hu)
     replace P_R := Aside0.mk (Rd.updN zz13 hu)
     replace HU := Aside0.mk ((zz7 : Upd S w _).trans hu (fun _ h => h.elim))
     clear hu
     have B_H := Aside0.mk hbox; clear hbox hge
     (try clear hc_G_0 hc_G_1 hc_G_2 hc_G_3 hc_G_4 hc_G_5 hc_G_6)
     have hc_G_0 := co B_G 0 (.pointer (some ⟨gs, 0, none⟩)) rfl; have hc_G_1 := co B_G 1 (.pointer (some ⟨gr, 0, none⟩)) rfl; have hc_G_2 := co B_G 2 (.slice A0 came.length c0) rfl; have hc_G_3 := co B_G 3 (.int .i64 leaf) rfl; have hc_G_4 := co B_G 4 (.int .i64 at_) rfl; have hc_G_5 := co B_G 5 (.bool begun) rfl; have hc_G_6 := co B_G 6 (.int .i64 over) rfl; have hc_H_0 := co B_H 0 (.int .i64 h1) rfl; have hc_H_1 := co B_H 1 (.int .i64 h2) rfl; have hc_H_2 := co B_H 2 (.bool false) rfl; have hc_H_3 := co B_H 3 (.int .i64 h4) rfl))
 go_quiet ((first | (go_at_call 57; refine Calls.quiet_of_same (stack_depth gs most [] S _ ?_); (repeat (first | (with_reducible exact P_K.out) | apply Sk.drew | apply Sk.drewN | apply Sk.alloc))) | (go_at_call 87; refine Calls.quiet_of (stack_leftQ gs most x r S _ ?_); (repeat (first | (with_reducible exact P_K.out) | apply Sk.drew | apply Sk.drewN | apply Sk.alloc)))))
 go_wp2_with (first
  | ((with_reducible refine gate_store (t := 124) (p := 31) (v := .tmp 29) rfl ?_)
     refine cellput rfl 124 (.tmp 31) (.tmp 29) rfl rfl g 2 (.slice A0 0 c0) rfl rfl 126 #[.pointer (some ⟨gs, 0, none⟩), .pointer (some ⟨gr, 0, none⟩), .slice A0 came.length c0, .int .i64 leaf, .int .i64 at_, .bool begun, .int .i64 over] #[.pointer (some ⟨gs, 0, none⟩), .pointer (some ⟨gr, 0, none⟩), .slice A0 0 c0, .int .i64 leaf, .int .i64 at_, .bool begun, .int .i64 over] zz3 zz5 zz19 rfl rfl ?_
     intro w2 hbox hu
     replace B_H := Aside0.mk (hu.blk zz18 (Ne.symm NE_G_H.out))
     replace R_C := Aside0.mk (row_updT zz15 zz3 zz8 hu)
     replace P_K := Aside0.mk (Sk.updT zz11 zz3 zz8 hu)
     replace P_R := Aside0.mk (Rd.updT zz13 zz3 zz8 hu)
     replace HU := Aside0.mk ((zz7 : Upd S w _).trans hu (fun k hk => .inl zz22))
     clear hu
     clear B_G; have B_G := Aside0.mk hbox; clear hbox
     (try clear hc_G_0 hc_G_1 hc_G_2 hc_G_3 hc_G_4 hc_G_5 hc_G_6 hc_H_0 hc_H_1 hc_H_2 hc_H_3)
     have hc_G_0 := co B_G 0 (.pointer (some ⟨gs, 0, none⟩)) rfl; have hc_G_1 := co B_G 1 (.pointer (some ⟨gr, 0, none⟩)) rfl; have hc_G_2 := co B_G 2 (.slice A0 0 c0) rfl; have hc_G_3 := co B_G 3 (.int .i64 leaf) rfl; have hc_G_4 := co B_G 4 (.int .i64 at_) rfl; have hc_G_5 := co B_G 5 (.bool begun) rfl; have hc_G_6 := co B_G 6 (.int .i64 over) rfl; have hc_H_0 := co B_H 0 (.int .i64 h1) rfl; have hc_H_1 := co B_H 1 (.int .i64 h2) rfl; have hc_H_2 := co B_H 2 (.bool false) rfl; have hc_H_3 := co B_H 3 (.int .i64 h4) rfl)
  | ((with_reducible refine gate_store (t := 4) (p := 56) (v := .const (.bool true)) rfl ?_)
     refine cellput rfl 4 (.tmp 56) (.const (.bool true)) rfl rfl g 5 (.bool true) rfl rfl 126 #[.pointer (some ⟨gs, 0, none⟩), .pointer (some ⟨gr, 0, none⟩), .slice A0 0 c0, .int .i64 leaf, .int .i64 at_, .bool begun, .int .i64 over] #[.pointer (some ⟨gs, 0, none⟩), .pointer (some ⟨gr, 0, none⟩), .slice A0 0 c0, .int .i64 leaf, .int .i64 at_, .bool true, .int .i64 over] zz3 zz5 zz19 rfl rfl ?_
     intro w3 hbox hu
     replace B_H := Aside0.mk (hu.blk zz18 (Ne.symm NE_G_H.out))
     replace R_C := Aside0.mk (row_updT zz15 zz3 zz8 hu)
     replace P_K := Aside0.mk (Sk.updT zz11 zz3 zz8 hu)
     replace P_R := Aside0.mk (Rd.updT zz13 zz3 zz8 hu)
     replace HU := Aside0.mk ((zz7 : Upd S w _).trans hu (fun k hk => .inl zz22))
     clear hu
     clear B_G; have B_G := Aside0.mk hbox; clear hbox
     (try clear hc_G_0 hc_G_1 hc_G_2 hc_G_3 hc_G_4 hc_G_5 hc_G_6 hc_H_0 hc_H_1 hc_H_2 hc_H_3)
     have hc_G_0 := co B_G 0 (.pointer (some ⟨gs, 0, none⟩)) rfl; have hc_G_1 := co B_G 1 (.pointer (some ⟨gr, 0, none⟩)) rfl; have hc_G_2 := co B_G 2 (.slice A0 0 c0) rfl; have hc_G_3 := co B_G 3 (.int .i64 leaf) rfl; have hc_G_4 := co B_G 4 (.int .i64 at_) rfl; have hc_G_5 := co B_G 5 (.bool true) rfl; have hc_G_6 := co B_G 6 (.int .i64 over) rfl; have hc_H_0 := co B_H 0 (.int .i64 h1) rfl; have hc_H_1 := co B_H 1 (.int .i64 h2) rfl; have hc_H_2 := co B_H 2 (.bool false) rfl; have hc_H_3 := co B_H 3 (.int .i64 h4) rfl)
  | ((with_reducible refine gate_store (t := 3) (p := 61) (v := .tmp 59) rfl ?_)
     refine cellput rfl 3 (.tmp 61) (.tmp 59) rfl rfl g 3 (.int .i64 h4) rfl rfl 126 #[.pointer (some ⟨gs, 0, none⟩), .pointer (some ⟨gr, 0, none⟩), .slice A0 0 c0, .int .i64 leaf, .int .i64 at_, .bool true, .int .i64 over] #[.pointer (some ⟨gs, 0, none⟩), .pointer (some ⟨gr, 0, none⟩), .slice A0 0 c0, .int .i64 h4, .int .i64 at_, .bool true, .int .i64 over] zz3 zz5 zz19 rfl rfl ?_
     intro w4 hbox hu
     replace B_H := Aside0.mk (hu.blk zz18 (Ne.symm NE_G_H.out))
     replace R_C := Aside0.mk (row_updT zz15 zz3 zz8 hu)
     replace P_K := Aside0.mk (Sk.updT zz11 zz3 zz8 hu)
     replace P_R := Aside0.mk (Rd.updT zz13 zz3 zz8 hu)
     replace HU := Aside0.mk ((zz7 : Upd S w _).trans hu (fun k hk => .inl zz22))
     clear hu
     clear B_G; have B_G := Aside0.mk hbox; clear hbox
     (try clear hc_G_0 hc_G_1 hc_G_2 hc_G_3 hc_G_4 hc_G_5 hc_G_6 hc_H_0 hc_H_1 hc_H_2 hc_H_3)
     have hc_G_0 := co B_G 0 (.pointer (some ⟨gs, 0, none⟩)) rfl; have hc_G_1 := co B_G 1 (.pointer (some ⟨gr, 0, none⟩)) rfl; have hc_G_2 := co B_G 2 (.slice A0 0 c0) rfl; have hc_G_3 := co B_G 3 (.int .i64 h4) rfl; have hc_G_4 := co B_G 4 (.int .i64 at_) rfl; have hc_G_5 := co B_G 5 (.bool true) rfl; have hc_G_6 := co B_G 6 (.int .i64 over) rfl; have hc_H_0 := co B_H 0 (.int .i64 h1) rfl; have hc_H_1 := co B_H 1 (.int .i64 h2) rfl; have hc_H_2 := co B_H 2 (.bool false) rfl; have hc_H_3 := co B_H 3 (.int .i64 h4) rfl))
 go_region
 have hu : Upd None0 w4 ((w4.alloc (.cells #[.int .i64 2, .int .i64 at_, .int .i64 h1, .int .i64 h2, .bool false, .int .i64 h4, .int .u8 0] 34)).drew) := ((Upd.refl None0 w4).alloc _).drew
 have ho2 : k34.R 34 ((w4.alloc (.cells #[.int .i64 2, .int .i64 at_, .int .i64 h1, .int .i64 h2, .bool false, .int .i64 h4, .int .u8 0] 34)).drew) 0 (New w None0) (.slice (some ⟨w4.heap.size, 0, none⟩) 1 1) [ev 2 at_ ⟨h1, h2, false, h4⟩ 0] := row_mono (Kd.R_drew (row_alloc k34 w4 34 (xs := [ev 2 at_ ⟨h1, h2, false, h4⟩ 0]) (inner := [.int .i64 2, .int .i64 at_, .int .i64 h1, .int .i64 h2, .bool false, .int .i64 h4, .int .u8 0]) (reps_one (k34_mkM _ _ _ (ev 2 at_ ⟨h1, h2, false, h4⟩ 0)) rfl) zz19)) (fun k hk => hk.elim (fun h => h.elim) (fun h => .inr (Nat.le_trans (zz7 : Upd S w _).size h)))
 replace B_G := Aside0.mk (hu.blk zz3 (fun h => h))
 replace B_H := Aside0.mk (hu.blk zz18 (fun h => h))
 replace R_C := Aside0.mk (row_upd zz15 hu (fun k hk h => h.elim))
 replace P_K := Aside0.mk (Sk.updN zz11 hu)
 replace P_R := Aside0.mk (Rd.updN zz13 hu)
 replace HU := Aside0.mk ((zz7 : Upd S w _).trans hu (fun _ h => h.elim))
 clear hu
 have R_O := Aside0.mk ho2; clear ho2
 generalize (w4.alloc (.cells #[.int .i64 2, .int .i64 at_, .int .i64 h1, .int .i64 h2, .bool false, .int .i64 h4, .int .u8 0] 34)).drew = w5 at *
 (try clear hc_G_0 hc_G_1 hc_G_2 hc_G_3 hc_G_4 hc_G_5 hc_G_6 hc_H_0 hc_H_1 hc_H_2 hc_H_3)
 have hc_G_0 := co B_G 0 (.pointer (some ⟨gs, 0, none⟩)) rfl; have hc_G_1 := co B_G 1 (.pointer (some ⟨gr, 0, none⟩)) rfl; have hc_G_2 := co B_G 2 (.slice A0 0 c0) rfl; have hc_G_3 := co B_G 3 (.int .i64 h4) rfl; have hc_G_4 := co B_G 4 (.int .i64 at_) rfl; have hc_G_5 := co B_G 5 (.bool true) rfl; have hc_G_6 := co B_G 6 (.int .i64 over) rfl; have hc_H_0 := co B_H 0 (.int .i64 h1) rfl; have hc_H_1 := co B_H 1 (.int .i64 h2) rfl; have hc_H_2 := co B_H 2 (.bool false) rfl; have hc_H_3 := co B_H 3 (.int .i64 h4) rfl
 go_wp2
 go_ret2
 exact ⟨_, rfl, (by exact rl R_O), ⟨gs, gr, _, S2, S3, .inl IN_G.out, zz3, Sk.mono zz11 (fun k h => .inl h), zz13, (Kd.R_take (m := 0) zz15 (Nat.zero_le _)), fun k h => .inl (H2.out k h), fun k h => .inl (H3.out k h), H23.out⟩, zz7⟩
set_option maxHeartbeats 8000000 in
set_option maxRecDepth 100000 in
theorem mach_beginL11 (g most : Nat) (came : List Int) (leaf at_ : Int) (begun : Bool) (over : Int) (h1 h2 h4 : Int) (S : Nat → Prop) (w : World) (rc : List Int) (ro : Int) (hM : Mc w S g most ⟨[], came, leaf, at_, begun, over⟩ rc ro) (hh0 : 0 ≤ h4) (hh1 : h4 ≤ 2305843009213693951) (hz : h4 = 0) :
 Calls Try.prog 73 #[.pointer (some ⟨g, 0, none⟩), .agg #[.int .i64 h1, .int .i64 h2, .bool false, .int .i64 h4]] w fun e w' => ∃ v, e = .returned (.tuple #[v, .int .i64 0]) ∧ k34.R 34 w' 0 (New w None0) v ([ev 2 at_ ⟨h1, h2, false, h4⟩ 0, ev 4 at_ h0 0] : List Ev) ∧ Mc w' (New w S) g most ⟨[], [], h4, at_, true, over⟩ rc ro ∧ Upd S w w' := by
 obtain ⟨gs, gr, v, S2, S3, hg, hb0, hk0, hr0, hc0, h2, h3, h23⟩ := hM
 obtain ⟨A0, c0, rfl⟩ := Kd.R_slice hc0
 have HU := Aside0.mk (Upd.refl S w)
 have IN_G := Aside0.mk hg
 have B_G := Aside0.mk hb0
 have P_K := Aside0.mk hk0
 have P_R := Aside0.mk hr0
 have R_C := Aside0.mk hc0
 have H2 := Aside0.mk h2
 have H3 := Aside0.mk h3
 have H23 := Aside0.mk h23
 have hu_ := Try.underlying32
 have hu2_ := Try.underlying34
 clear hg hb0 hk0 hr0 hc0 h2 h3 h23
 have c1 : (h4 == 0) = true := beq_iff_eq.2 hz
 clear hz
 have hc_G_0 := co B_G 0 (.pointer (some ⟨gs, 0, none⟩)) rfl; have hc_G_1 := co B_G 1 (.pointer (some ⟨gr, 0, none⟩)) rfl; have hc_G_2 := co B_G 2 (.slice A0 came.length c0) rfl; have hc_G_3 := co B_G 3 (.int .i64 leaf) rfl; have hc_G_4 := co B_G 4 (.int .i64 at_) rfl; have hc_G_5 := co B_G 5 (.bool begun) rfl; have hc_G_6 := co B_G 6 (.int .i64 over) rfl
 go_enter Try.func73, Try.ntmps73
 go_wp2_with (first
  | ((with_reducible refine gate_dst (N := 3) rfl ?_)
     refine boxnew ?hg (N := 3) ?hd (cs := #[.int .i64 h1, .int .i64 h2, .bool false, .int .i64 h4]) (t := 32) ?hr ?_; (case hd => rfl); (case hg => rfl); (case hr => first | (go_simp; done) | (go_simp; rfl))
     intro g_H hge w1 hbox hu
     have NE_G_H := Aside0.mk (blk_fresh zz3 hge)
     have GE_H := Aside0.mk (Nat.le_trans (zz7 : Upd S w _).size hge)
     replace B_G := Aside0.mk (hu.blk zz3 (fun h => h))
     replace R_C := Aside0.mk (row_upd zz15 hu (fun k hk h => h.elim))
     replace P_K := Aside0.mk (Sk.updN zz11 hu)
     replace P_R := Aside0.mk (Rd.updN zz13 hu)
     replace HU := Aside0.mk ((zz7 : Upd S w _).trans hu (fun _ h => h.elim))
     clear hu
     have B_H := Aside0.mk hbox; clear hbox hge
     (try clear hc_G_0 hc_G_1 hc_G_2 hc_G_3 hc_G_4 hc_G_5 hc_G_6)
     have hc_G_0 := co B_G 0 (.pointer (some ⟨gs, 0, none⟩)) rfl; have hc_G_1 := co B_G 1 (.pointer (some ⟨gr, 0, none⟩)) rfl; have hc_G_2 := co B_G 2 (.slice A0 came.length c0) rfl; have hc_G_3 := co B_G 3 (.int .i64 leaf) rfl; have hc_G_4 := co B_G 4 (.int .i64 at_) rfl; have hc_G_5 := co B_G 5 (.bool begun) rfl; have hc_G_6 := co B_G 6 (.int .i64 over) rfl; have hc_H_0 := co B_H 0 (.int .i64 h1) rfl; have hc_H_1 := co B_H 1 (.int .i64 h2) rfl; have hc_H_2 := co B_H 2 (.bool false) rfl; have hc_H_3 := co B_H 3 (.int .i64 h4) rfl))
 go_quiet ((first | (go_at_call 57; refine Calls.quiet_of_same (stack_depth gs most [] S _ ?_); (repeat (first | (with_reducible exact P_K.out) | apply Sk.drew | apply Sk.drewN | apply Sk.alloc))) | (go_at_call 87; refine Calls.quiet_of (stack_leftQ gs most x r S _ ?_); (repeat (first | (with_reducible exact P_K.out) | apply Sk.drew | apply Sk.drewN | apply Sk.alloc)))))
 go_wp2_with (first
  | ((with_reducible refine gate_store (t := 124) (p := 31) (v := .tmp 29) rfl ?_)
     refine cellput rfl 124 (.tmp 31) (.tmp 29) rfl rfl g 2 (.slice A0 0 c0) rfl rfl 126 #[.pointer (some ⟨gs, 0, none⟩), .pointer (some ⟨gr, 0, none⟩), .slice A0 came.length c0, .int .i64 leaf, .int .i64 at_, .bool begun, .int .i64 over] #[.pointer (some ⟨gs, 0, none⟩), .pointer (some ⟨gr, 0, none⟩), .slice A0 0 c0, .int .i64 leaf, .int .i64 at_, .bool begun, .int .i64 over] zz3 zz5 zz19 rfl rfl ?_
     intro w2 hbox hu
     replace B_H := Aside0.mk (hu.blk zz18 (Ne.symm NE_G_H.out))
     replace R_C := Aside0.mk (row_updT zz15 zz3 zz8 hu)
     replace P_K := Aside0.mk (Sk.updT zz11 zz3 zz8 hu)
     replace P_R := Aside0.mk (Rd.updT zz13 zz3 zz8 hu)
     replace HU := Aside0.mk ((zz7 : Upd S w _).trans hu (fun k hk => .inl zz22))
     clear hu
     clear B_G; have B_G := Aside0.mk hbox; clear hbox
     (try clear hc_G_0 hc_G_1 hc_G_2 hc_G_3 hc_G_4 hc_G_5 hc_G_6 hc_H_0 hc_H_1 hc_H_2 hc_H_3)
     have hc_G_0 := co B_G 0 (.pointer (some ⟨gs, 0, none⟩)) rfl; have hc_G_1 := co B_G 1 (.pointer (some ⟨gr, 0, none⟩)) rfl; have hc_G_2 := co B_G 2 (.slice A0 0 c0) rfl; have hc_G_3 := co B_G 3 (.int .i64 leaf) rfl; have hc_G_4 := co B_G 4 (.int .i64 at_) rfl; have hc_G_5 := co B_G 5 (.bool begun) rfl; have hc_G_6 := co B_G 6 (.int .i64 over) rfl; have hc_H_0 := co B_H 0 (.int .i64 h1) rfl; have hc_H_1 := co B_H 1 (.int .i64 h2) rfl; have hc_H_2 := co B_H 2 (.bool false) rfl; have hc_H_3 := co B_H 3 (.int .i64 h4) rfl)
  | ((with_reducible refine gate_store (t := 4) (p := 56) (v := .const (.bool true)) rfl ?_)
     refine cellput rfl 4 (.tmp 56) (.const (.bool true)) rfl rfl g 5 (.bool true) rfl rfl 126 #[.pointer (some ⟨gs, 0, none⟩), .pointer (some ⟨gr, 0, none⟩), .slice A0 0 c0, .int .i64 leaf, .int .i64 at_, .bool begun, .int .i64 over] #[.pointer (some ⟨gs, 0, none⟩), .pointer (some ⟨gr, 0, none⟩), .slice A0 0 c0, .int .i64 leaf, .int .i64 at_, .bool true, .int .i64 over] zz3 zz5 zz19 rfl rfl ?_
     intro w3 hbox hu
     replace B_H := Aside0.mk (hu.blk zz18 (Ne.symm NE_G_H.out))
     replace R_C := Aside0.mk (row_updT zz15 zz3 zz8 hu)
     replace P_K := Aside0.mk (Sk.updT zz11 zz3 zz8 hu)
     replace P_R := Aside0.mk (Rd.updT zz13 zz3 zz8 hu)
     replace HU := Aside0.mk ((zz7 : Upd S w _).trans hu (fun k hk => .inl zz22))
     clear hu
     clear B_G; have B_G := Aside0.mk hbox; clear hbox
     (try clear hc_G_0 hc_G_1 hc_G_2 hc_G_3 hc_G_4 hc_G_5 hc_G_6 hc_H_0 hc_H_1 hc_H_2 hc_H_3)
     have hc_G_0 := co B_G 0 (.pointer (some ⟨gs, 0, none⟩)) rfl; have hc_G_1 := co B_G 1 (.pointer (some ⟨gr, 0, none⟩)) rfl; have hc_G_2 := co B_G 2 (.slice A0 0 c0) rfl; have hc_G_3 := co B_G 3 (.int .i64 leaf) rfl; have hc_G_4 := co B_G 4 (.int .i64 at_) rfl; have hc_G_5 := co B_G 5 (.bool true) rfl; have hc_G_6 := co B_G 6 (.int .i64 over) rfl; have hc_H_0 := co B_H 0 (.int .i64 h1) rfl; have hc_H_1 := co B_H 1 (.int .i64 h2) rfl; have hc_H_2 := co B_H 2 (.bool false) rfl; have hc_H_3 := co B_H 3 (.int .i64 h4) rfl)
  | ((with_reducible refine gate_store (t := 3) (p := 61) (v := .tmp 59) rfl ?_)
     refine cellput rfl 3 (.tmp 61) (.tmp 59) rfl rfl g 3 (.int .i64 h4) rfl rfl 126 #[.pointer (some ⟨gs, 0, none⟩), .pointer (some ⟨gr, 0, none⟩), .slice A0 0 c0, .int .i64 leaf, .int .i64 at_, .bool true, .int .i64 over] #[.pointer (some ⟨gs, 0, none⟩), .pointer (some ⟨gr, 0, none⟩), .slice A0 0 c0, .int .i64 h4, .int .i64 at_, .bool true, .int .i64 over] zz3 zz5 zz19 rfl rfl ?_
     intro w4 hbox hu
     replace B_H := Aside0.mk (hu.blk zz18 (Ne.symm NE_G_H.out))
     replace R_C := Aside0.mk (row_updT zz15 zz3 zz8 hu)
     replace P_K := Aside0.mk (Sk.updT zz11 zz3 zz8 hu)
     replace P_R := Aside0.mk (Rd.updT zz13 zz3 zz8 hu)
     replace HU := Aside0.mk ((zz7 : Upd S w _).trans hu (fun k hk => .inl zz22))
     clear hu
     clear B_G; have B_G := Aside0.mk hbox; clear hbox
     (try clear hc_G_0 hc_G_1 hc_G_2 hc_G_3 hc_G_4 hc_G_5 hc_G_6 hc_H_0 hc_H_1 hc_H_2 hc_H_3)
     have hc_G_0 := co B_G 0 (.pointer (some ⟨gs, 0, none⟩)) rfl; have hc_G_1 := co B_G 1 (.pointer (some ⟨gr, 0, none⟩)) rfl; have hc_G_2 := co B_G 2 (.slice A0 0 c0) rfl; have hc_G_3 := co B_G 3 (.int .i64 h4) rfl; have hc_G_4 := co B_G 4 (.int .i64 at_) rfl; have hc_G_5 := co B_G 5 (.bool true) rfl; have hc_G_6 := co B_G 6 (.int .i64 over) rfl; have hc_H_0 := co B_H 0 (.int .i64 h1) rfl; have hc_H_1 := co B_H 1 (.int .i64 h2) rfl; have hc_H_2 := co B_H 2 (.bool false) rfl; have hc_H_3 := co B_H 3 (.int .i64 h4) rfl))
 go_region
 have hu : Upd None0 w4 ((w4.alloc (.cells #[.int .i64 2, .int .i64 at_, .int .i64 h1, .int .i64 h2, .bool false, .int .i64 h4, .int .u8 0] 34)).drew) := ((Upd.refl None0 w4).alloc _).drew
 have ho2 : k34.R 34 ((w4.alloc (.cells #[.int .i64 2, .int .i64 at_, .int .i64 h1, .int .i64 h2, .bool false, .int .i64 h4, .int .u8 0] 34)).drew) 0 (New w None0) (.slice (some ⟨w4.heap.size, 0, none⟩) 1 1) [ev 2 at_ ⟨h1, h2, false, h4⟩ 0] := row_mono (Kd.R_drew (row_alloc k34 w4 34 (xs := [ev 2 at_ ⟨h1, h2, false, h4⟩ 0]) (inner := [.int .i64 2, .int .i64 at_, .int .i64 h1, .int .i64 h2, .bool false, .int .i64 h4, .int .u8 0]) (reps_one (k34_mkM _ _ _ (ev 2 at_ ⟨h1, h2, false, h4⟩ 0)) rfl) zz19)) (fun k hk => hk.elim (fun h => h.elim) (fun h => .inr (Nat.le_trans (zz7 : Upd S w _).size h)))
 replace B_G := Aside0.mk (hu.blk zz3 (fun h => h))
 replace B_H := Aside0.mk (hu.blk zz18 (fun h => h))
 replace R_C := Aside0.mk (row_upd zz15 hu (fun k hk h => h.elim))
 replace P_K := Aside0.mk (Sk.updN zz11 hu)
 replace P_R := Aside0.mk (Rd.updN zz13 hu)
 replace HU := Aside0.mk ((zz7 : Upd S w _).trans hu (fun _ h => h.elim))
 clear hu
 have R_O := Aside0.mk ho2; clear ho2
 generalize (w4.alloc (.cells #[.int .i64 2, .int .i64 at_, .int .i64 h1, .int .i64 h2, .bool false, .int .i64 h4, .int .u8 0] 34)).drew = w5 at *
 (try clear hc_G_0 hc_G_1 hc_G_2 hc_G_3 hc_G_4 hc_G_5 hc_G_6 hc_H_0 hc_H_1 hc_H_2 hc_H_3)
 have hc_G_0 := co B_G 0 (.pointer (some ⟨gs, 0, none⟩)) rfl; have hc_G_1 := co B_G 1 (.pointer (some ⟨gr, 0, none⟩)) rfl; have hc_G_2 := co B_G 2 (.slice A0 0 c0) rfl; have hc_G_3 := co B_G 3 (.int .i64 h4) rfl; have hc_G_4 := co B_G 4 (.int .i64 at_) rfl; have hc_G_5 := co B_G 5 (.bool true) rfl; have hc_G_6 := co B_G 6 (.int .i64 over) rfl; have hc_H_0 := co B_H 0 (.int .i64 h1) rfl; have hc_H_1 := co B_H 1 (.int .i64 h2) rfl; have hc_H_2 := co B_H 2 (.bool false) rfl; have hc_H_3 := co B_H 3 (.int .i64 h4) rfl
 go_wp2_with (first
  | ((with_reducible refine gate_builtin (b := .append) (xs := #[.tmp 72, .tmp 78]) rfl ?_); at_builtin
     refine row_append (k34) (S := (New w None0)) rfl (.tmp 72) (.tmp 78) 25 34 (.agg #[.int .i64 0, .int .i64 0, .int .i64 0, .int .i64 0, .bool false, .int .i64 0, .int .u8 0]) 56 rfl Try.underlying25 info34 rfl zz8 zz4 (.slice (some ⟨w4.heap.size, 0, none⟩) 1 1) ([ev 2 at_ ⟨h1, h2, false, h4⟩ 0]) (ev 4 at_ h0 0) [.int .i64 4, .int .i64 at_, .int .i64 0, .int .i64 0, .bool false, .int .i64 0, .int .u8 0] rfl rfl ?aP ?aO ?aL [ev 2 at_ ⟨h1, h2, false, h4⟩ 0, ev 4 at_ h0 0] rfl ?_
     (case aP => exact k34_mkM _ _ _ _); (case aO => exact (by exact rl R_O)); (case aL => (simp))
     intro v2 w6 ho hu
     have ho2 := row_mono ho (fun k hk => hk.elim id (fun h => .inr (Nat.le_trans (zz7 : Upd S w _).size h)))
     replace B_G := Aside0.mk (hu.blk zz3 (Kd.R_ne R_O.out zz3 zz8))
     replace B_H := Aside0.mk (hu.blk zz18 (Kd.R_ne R_O.out zz18 zz8))
     replace R_C := Aside0.mk (row_updR zz15 R_O.out zz8 hu)
     replace P_K := Aside0.mk (Sk.updR zz11 R_O.out zz8 hu)
     replace P_R := Aside0.mk (Rd.updR zz13 R_O.out zz8 hu)
     replace HU := Aside0.mk ((zz7 : Upd S w _).trans hu (fun k hk => (row_at R_O.out hk).elim (fun h => h.elim) .inr))
     clear hu
     obtain ⟨A_O6, c_O6, rfl⟩ := Kd.R_slice ho2
     clear R_O ho; have R_O := Aside0.mk ho2; clear ho2
     (try clear hc_G_0 hc_G_1 hc_G_2 hc_G_3 hc_G_4 hc_G_5 hc_G_6 hc_H_0 hc_H_1 hc_H_2 hc_H_3)
     have hc_G_0 := co B_G 0 (.pointer (some ⟨gs, 0, none⟩)) rfl; have hc_G_1 := co B_G 1 (.pointer (some ⟨gr, 0, none⟩)) rfl; have hc_G_2 := co B_G 2 (.slice A0 0 c0) rfl; have hc_G_3 := co B_G 3 (.int .i64 h4) rfl; have hc_G_4 := co B_G 4 (.int .i64 at_) rfl; have hc_G_5 := co B_G 5 (.bool true) rfl; have hc_G_6 := co B_G 6 (.int .i64 over) rfl; have hc_H_0 := co B_H 0 (.int .i64 h1) rfl; have hc_H_1 := co B_H 1 (.int .i64 h2) rfl; have hc_H_2 := co B_H 2 (.bool false) rfl; have hc_H_3 := co B_H 3 (.int .i64 h4) rfl))
 go_ret2
 exact ⟨_, rfl, (by exact rl R_O), ⟨gs, gr, _, S2, S3, .inl IN_G.out, zz3, Sk.mono zz11 (fun k h => .inl h), zz13, (Kd.R_take (m := 0) zz15 (Nat.zero_le _)), fun k h => .inl (H2.out k h), fun k h => .inl (H3.out k h), H23.out⟩, zz7⟩
set_option maxHeartbeats 8000000 in
set_option maxRecDepth 100000 in
theorem mach_beginE0 (g most : Nat) (x : Int) (r : List Int) (came : List Int) (leaf at_ : Int) (begun : Bool) (over : Int) (h1 h2 h4 : Int) (S : Nat → Prop) (w : World) (rc : List Int) (ro : Int) (hM : Mc w S g most ⟨x :: r, came, leaf, at_, begun, over⟩ rc ro) (hh0 : 0 ≤ h4) (hh1 : h4 ≤ 2305843009213693951) (hf : h4 ≤ x) (l2 : List Int) (e2 : Int) (he : Mxm.en most (x :: r) h4 = (l2, e2)) (hz : e2 ≠ 0) :
 Calls Try.prog 73 #[.pointer (some ⟨g, 0, none⟩), .agg #[.int .i64 h1, .int .i64 h2, .bool true, .int .i64 h4]] w fun e w' => ∃ v, e = .returned (.tuple #[v, .int .i64 e2]) ∧ k34.R 34 w' 0 (New w None0) v ([] : List Ev) ∧ Mc w' (New w S) g most ⟨l2, [], leaf, at_, begun, over⟩ rc ro ∧ Upd S w w' := by
 obtain ⟨gs, gr, v, S2, S3, hg, hb0, hk0, hr0, hc0, h2, h3, h23⟩ := hM
 obtain ⟨A0, c0, rfl⟩ := Kd.R_slice hc0
 have HU := Aside0.mk (Upd.refl S w)
 have IN_G := Aside0.mk hg
 have B_G := Aside0.mk hb0
 have P_K := Aside0.mk hk0
 have P_R := Aside0.mk hr0
 have R_C := Aside0.mk hc0
 have H2 := Aside0.mk h2
 have H3 := Aside0.mk h3
 have H23 := Aside0.mk h23
 have hu_ := Try.underlying32
 have hu2_ := Try.underlying34
 clear hg hb0 hk0 hr0 hc0 h2 h3 h23
 have f1 : decide ((0 : Int) < (((x :: r).length : Nat) : Int)) = true := decide_eq_true zz19
 have f2 : decide (x < h4) = false := decide_eq_false zz4
 clear hf
 have c1 : (e2 != 0) = true := bne_iff_ne.2 hz
 have HE := Aside0.mk he
 have HH0 := Aside0.mk hh0
 have HH1 := Aside0.mk hh1
 clear hz he
 have hc_G_0 := co B_G 0 (.pointer (some ⟨gs, 0, none⟩)) rfl; have hc_G_1 := co B_G 1 (.pointer (some ⟨gr, 0, none⟩)) rfl; have hc_G_2 := co B_G 2 (.slice A0 came.length c0) rfl; have hc_G_3 := co B_G 3 (.int .i64 leaf) rfl; have hc_G_4 := co B_G 4 (.int .i64 at_) rfl; have hc_G_5 := co B_G 5 (.bool begun) rfl; have hc_G_6 := co B_G 6 (.int .i64 over) rfl
 go_enter Try.func73, Try.ntmps73
 go_wp2_with (first
  | ((with_reducible refine gate_dst (N := 3) rfl ?_)
     refine boxnew ?hg (N := 3) ?hd (cs := #[.int .i64 h1, .int .i64 h2, .bool true, .int .i64 h4]) (t := 32) ?hr ?_; (case hd => rfl); (case hg => rfl); (case hr => first | (go_simp; done) | (go_simp; rfl))
     intro g_H hge w1 hbox hu
     have NE_G_H := Aside0.mk (blk_fresh zz3 hge)
     have GE_H := Aside0.mk (Nat.le_trans (zz7 : Upd S w _).size hge)
     replace B_G := Aside0.mk (hu.blk zz3 (fun h => h))
     replace R_C := Aside0.mk (row_upd zz15 hu (fun k hk h => h.elim))
     replace P_K := Aside0.mk (Sk.updN zz11 hu)
     replace P_R := Aside0.mk (Rd.updN zz13 hu)
     replace HU := Aside0.mk ((zz7 : Upd S w _).trans hu (fun _ h => h.elim))
     clear hu
     have B_H := Aside0.mk hbox; clear hbox hge
     (try clear hc_G_0 hc_G_1 hc_G_2 hc_G_3 hc_G_4 hc_G_5 hc_G_6)
     have hc_G_0 := co B_G 0 (.pointer (some ⟨gs, 0, none⟩)) rfl; have hc_G_1 := co B_G 1 (.pointer (some ⟨gr, 0, none⟩)) rfl; have hc_G_2 := co B_G 2 (.slice A0 came.length c0) rfl; have hc_G_3 := co B_G 3 (.int .i64 leaf) rfl; have hc_G_4 := co B_G 4 (.int .i64 at_) rfl; have hc_G_5 := co B_G 5 (.bool begun) rfl; have hc_G_6 := co B_G 6 (.int .i64 over) rfl; have hc_H_0 := co B_H 0 (.int .i64 h1) rfl; have hc_H_1 := co B_H 1 (.int .i64 h2) rfl; have hc_H_2 := co B_H 2 (.bool true) rfl; have hc_H_3 := co B_H 3 (.int .i64 h4) rfl))
 go_quiet ((first | (go_at_call 57; refine Calls.quiet_of_same (stack_depth gs most (x :: r) S _ ?_); (repeat (first | (with_reducible exact P_K.out) | apply Sk.drew | apply Sk.drewN | apply Sk.alloc))) | (go_at_call 87; refine Calls.quiet_of (stack_leftQ gs most x r S _ ?_); (repeat (first | (with_reducible exact P_K.out) | apply Sk.drew | apply Sk.drewN | apply Sk.alloc)))))
 go_wp2_with (first
  | ((with_reducible refine gate_store (t := 124) (p := 31) (v := .tmp 29) rfl ?_)
     refine cellput rfl 124 (.tmp 31) (.tmp 29) rfl rfl g 2 (.slice A0 0 c0) rfl rfl 126 #[.pointer (some ⟨gs, 0, none⟩), .pointer (some ⟨gr, 0, none⟩), .slice A0 came.length c0, .int .i64 leaf, .int .i64 at_, .bool begun, .int .i64 over] #[.pointer (some ⟨gs, 0, none⟩), .pointer (some ⟨gr, 0, none⟩), .slice A0 0 c0, .int .i64 leaf, .int .i64 at_, .bool begun, .int .i64 over] zz3 zz5 zz19 rfl rfl ?_
     intro w2 hbox hu
     replace B_H := Aside0.mk (hu.blk zz18 (Ne.symm NE_G_H.out))
     replace R_C := Aside0.mk (row_updT zz15 zz3 zz8 hu)
     replace P_K := Aside0.mk (Sk.updT zz11 zz3 zz8 hu)
     replace P_R := Aside0.mk (Rd.updT zz13 zz3 zz8 hu)
     replace HU := Aside0.mk ((zz7 : Upd S w _).trans hu (fun k hk => .inl zz22))
     clear hu
     clear B_G; have B_G := Aside0.mk hbox; clear hbox
     (try clear hc_G_0 hc_G_1 hc_G_2 hc_G_3 hc_G_4 hc_G_5 hc_G_6 hc_H_0 hc_H_1 hc_H_2 hc_H_3)
     have hc_G_0 := co B_G 0 (.pointer (some ⟨gs, 0, none⟩)) rfl; have hc_G_1 := co B_G 1 (.pointer (some ⟨gr, 0, none⟩)) rfl; have hc_G_2 := co B_G 2 (.slice A0 0 c0) rfl; have hc_G_3 := co B_G 3 (.int .i64 leaf) rfl; have hc_G_4 := co B_G 4 (.int .i64 at_) rfl; have hc_G_5 := co B_G 5 (.bool begun) rfl; have hc_G_6 := co B_G 6 (.int .i64 over) rfl; have hc_H_0 := co B_H 0 (.int .i64 h1) rfl; have hc_H_1 := co B_H 1 (.int .i64 h2) rfl; have hc_H_2 := co B_H 2 (.bool true) rfl; have hc_H_3 := co B_H 3 (.int .i64 h4) rfl))
 go_region_with (first
  | (go_at_call 88
     (with_reducible refine (stack_enterE gs most (x :: r) l2 h4 e2 _ _ (Sk.bnd zz11) HH0.out HH1.out HE.out).mono ?_)
     rintro e w3 ⟨rfl, hs, hu⟩
     have hs2 := hs.mono Bnd.of
     replace B_G := Aside0.mk (hu.blk zz3 (Bnd.ne zz3 zz8))
     replace B_H := Aside0.mk (hu.blk zz18 (Bnd.ne zz18 zz8))
     replace R_C := Aside0.mk (row_mono (row_upd (Bnd.row zz15 (E := 5 :: (Kd.int .u8).E) (fun _ h => h)) hu (fun k h1 h2 => bnd_apart zz8 h1 h2)) Bnd.of)
     replace P_R := Aside0.mk (Rd.updB zz13 hu zz8)
     replace HU := Aside0.mk ((zz7 : Upd S w _).trans hu (fun k hk => .inl hk.1))
     clear hu
     clear P_K hs; have P_K := Aside0.mk hs2; clear hs2
     (try clear hc_G_0 hc_G_1 hc_G_2 hc_G_3 hc_G_4 hc_G_5 hc_G_6 hc_H_0 hc_H_1 hc_H_2 hc_H_3)
     have hc_G_0 := co B_G 0 (.pointer (some ⟨gs, 0, none⟩)) rfl; have hc_G_1 := co B_G 1 (.pointer (some ⟨gr, 0, none⟩)) rfl; have hc_G_2 := co B_G 2 (.slice A0 0 c0) rfl; have hc_G_3 := co B_G 3 (.int .i64 leaf) rfl; have hc_G_4 := co B_G 4 (.int .i64 at_) rfl; have hc_G_5 := co B_G 5 (.bool begun) rfl; have hc_G_6 := co B_G 6 (.int .i64 over) rfl; have hc_H_0 := co B_H 0 (.int .i64 h1) rfl; have hc_H_1 := co B_H 1 (.int .i64 h2) rfl; have hc_H_2 := co B_H 2 (.bool true) rfl; have hc_H_3 := co B_H 3 (.int .i64 h4) rfl))
 all_goals (
  go_wp2
  go_ret2
  exact ⟨_, rfl, Kd.R_nil _ _ _ _ _, ⟨gs, gr, _, S2, S3, .inl IN_G.out, zz3, Sk.mono zz11 (fun k h => .inl h), zz13, (Kd.R_take (m := 0) zz15 (Nat.zero_le _)), fun k h => .inl (H2.out k h), fun k h => .inl (H3.out k h), H23.out⟩, zz7⟩)
set_option maxHeartbeats 8000000 in
set_option maxRecDepth 100000 in
theorem mach_beginC0 (g most : Nat) (x : Int) (r : List Int) (came : List Int) (leaf at_ : Int) (begun : Bool) (over : Int) (h1 h2 h4 : Int) (S : Nat → Prop) (w : World) (rc : List Int) (ro : Int) (hM : Mc w S g most ⟨x :: r, came, leaf, at_, begun, over⟩ rc ro) (hh0 : 0 ≤ h4) (hh1 : h4 ≤ 2305843009213693951) (hf : h4 ≤ x) (l2 : List Int) (he : Mxm.en most (x :: r) h4 = (l2, 0)) :
 Calls Try.prog 73 #[.pointer (some ⟨g, 0, none⟩), .agg #[.int .i64 h1, .int .i64 h2, .bool true, .int .i64 h4]] w fun e w' => ∃ v, e = .returned (.tuple #[v, .int .i64 0]) ∧ k34.R 34 w' 0 (New w None0) v ([ev 1 at_ ⟨h1, h2, true, h4⟩ 0] : List Ev) ∧ Mc w' (New w S) g most ⟨l2, [], leaf, at_, true, over⟩ rc ro ∧ Upd S w w' := by
 obtain ⟨gs, gr, v, S2, S3, hg, hb0, hk0, hr0, hc0, h2, h3, h23⟩ := hM
 obtain ⟨A0, c0, rfl⟩ := Kd.R_slice hc0
 have HU := Aside0.mk (Upd.refl S w)
 have IN_G := Aside0.mk hg
 have B_G := Aside0.mk hb0
 have P_K := Aside0.mk hk0
 have P_R := Aside0.mk hr0
 have R_C := Aside0.mk hc0
 have H2 := Aside0.mk h2
 have H3 := Aside0.mk h3
 have H23 := Aside0.mk h23
 have hu_ := Try.underlying32
 have hu2_ := Try.underlying34
 clear hg hb0 hk0 hr0 hc0 h2 h3 h23
 have f1 : decide ((0 : Int) < (((x :: r).length : Nat) : Int)) = true := decide_eq_true zz19
 have f2 : decide (x < h4) = false := decide_eq_false zz4
 clear hf
 have HE := Aside0.mk he
 have HH0 := Aside0.mk hh0
 have HH1 := Aside0.mk hh1
 clear he
 have hc_G_0 := co B_G 0 (.pointer (some ⟨gs, 0, none⟩)) rfl; have hc_G_1 := co B_G 1 (.pointer (some ⟨gr, 0, none⟩)) rfl; have hc_G_2 := co B_G 2 (.slice A0 came.length c0) rfl; have hc_G_3 := co B_G 3 (.int .i64 leaf) rfl; have hc_G_4 := co B_G 4 (.int .i64 at_) rfl; have hc_G_5 := co B_G 5 (.bool begun) rfl; have hc_G_6 := co B_G 6 (.int .i64 over) rfl
 go_enter Try.func73, Try.ntmps73
 go_wp2_with (first
  | ((with_reducible refine gate_dst (N := 3) rfl ?_)
     refine boxnew ?hg (N := 3) ?hd (cs := #[.int .i64 h1, .int .i64 h2, .bool true, .int .i64 h4]) (t := 32) ?hr ?_; (case hd => rfl); (case hg => rfl); (case hr => first | (go_simp; done) | (go_simp; rfl))
     intro g_H hge w1 hbox hu
     have NE_G_H := Aside0.mk (blk_fresh zz3 hge)
     have GE_H := Aside0.mk (Nat.le_trans (zz7 : Upd S w _).size hge)
     replace B_G := Aside0.mk (hu.blk zz3 (fun h => h))
     replace R_C := Aside0.mk (row_upd zz15 hu (fun k hk h => h.elim))
     replace P_K := Aside0.mk (Sk.updN zz11 hu)
     replace P_R := Aside0.mk (Rd.updN zz13 hu)
     replace HU := Aside0.mk ((zz7 : Upd S w _).trans hu (fun _ h => h.elim))
     clear hu
     have B_H := Aside0.mk hbox; clear hbox hge
     (try clear hc_G_0 hc_G_1 hc_G_2 hc_G_3 hc_G_4 hc_G_5 hc_G_6)
     have hc_G_0 := co B_G 0 (.pointer (some ⟨gs, 0, none⟩)) rfl; have hc_G_1 := co B_G 1 (.pointer (some ⟨gr, 0, none⟩)) rfl; have hc_G_2 := co B_G 2 (.slice A0 came.length c0) rfl; have hc_G_3 := co B_G 3 (.int .i64 leaf) rfl; have hc_G_4 := co B_G 4 (.int .i64 at_) rfl; have hc_G_5 := co B_G 5 (.bool begun) rfl; have hc_G_6 := co B_G 6 (.int .i64 over) rfl; have hc_H_0 := co B_H 0 (.int .i64 h1) rfl; have hc_H_1 := co B_H 1 (.int .i64 h2) rfl; have hc_H_2 := co B_H 2 (.bool true) rfl; have hc_H_3 := co B_H 3 (.int .i64 h4) rfl))
 go_quiet ((first | (go_at_call 57; refine Calls.quiet_of_same (stack_depth gs most (x :: r) S _ ?_); (repeat (first | (with_reducible exact P_K.out) | apply Sk.drew | apply Sk.drewN | apply Sk.alloc))) | (go_at_call 87; refine Calls.quiet_of (stack_leftQ gs most x r S _ ?_); (repeat (first | (with_reducible exact P_K.out) | apply Sk.drew | apply Sk.drewN | apply Sk.alloc)))))
 go_wp2_with (first
  | ((with_reducible refine gate_store (t := 124) (p := 31) (v := .tmp 29) rfl ?_)
     refine cellput rfl 124 (.tmp 31) (.tmp 29) rfl rfl g 2 (.slice A0 0 c0) rfl rfl 126 #[.pointer (some ⟨gs, 0, none⟩), .pointer (some ⟨gr, 0, none⟩), .slice A0 came.length c0, .int .i64 leaf, .int .i64 at_, .bool begun, .int .i64 over] #[.pointer (some ⟨gs, 0, none⟩), .pointer (some ⟨gr, 0, none⟩), .slice A0 0 c0, .int .i64 leaf, .int .i64 at_, .bool begun, .int .i64 over] zz3 zz5 zz19 rfl rfl ?_
     intro w2 hbox hu
     replace B_H := Aside0.mk (hu.blk zz18 (Ne.symm NE_G_H.out))
     replace R_C := Aside0.mk (row_updT zz15 zz3 zz8 hu)
     replace P_K := Aside0.mk (Sk.updT zz11 zz3 zz8 hu)
     replace P_R := Aside0.mk (Rd.updT zz13 zz3 zz8 hu)
     replace HU := Aside0.mk ((zz7 : Upd S w _).trans hu (fun k hk => .inl zz22))
     clear hu
     clear B_G; have B_G := Aside0.mk hbox; clear hbox
     (try clear hc_G_0 hc_G_1 hc_G_2 hc_G_3 hc_G_4 hc_G_5 hc_G_6 hc_H_0 hc_H_1 hc_H_2 hc_H_3)
     have hc_G_0 := co B_G 0 (.pointer (some ⟨gs, 0, none⟩)) rfl; have hc_G_1 := co B_G 1 (.pointer (some ⟨gr, 0, none⟩)) rfl; have hc_G_2 := co B_G 2 (.slice A0 0 c0) rfl; have hc_G_3 := co B_G 3 (.int .i64 leaf) rfl; have hc_G_4 := co B_G 4 (.int .i64 at_) rfl; have hc_G_5 := co B_G 5 (.bool begun) rfl; have hc_G_6 := co B_G 6 (.int .i64 over) rfl; have hc_H_0 := co B_H 0 (.int .i64 h1) rfl; have hc_H_1 := co B_H 1 (.int .i64 h2) rfl; have hc_H_2 := co B_H 2 (.bool true) rfl; have hc_H_3 := co B_H 3 (.int .i64 h4) rfl))
 go_region_with (first
  | (go_at_call 88
     (with_reducible refine (stack_enterE gs most (x :: r) l2 h4 0 _ _ (Sk.bnd zz11) HH0.out HH1.out HE.out).mono ?_)
     rintro e w3 ⟨rfl, hs, hu⟩
     have hs2 := hs.mono Bnd.of
     replace B_G := Aside0.mk (hu.blk zz3 (Bnd.ne zz3 zz8))
     replace B_H := Aside0.mk (hu.blk zz18 (Bnd.ne zz18 zz8))
     replace R_C := Aside0.mk (row_mono (row_upd (Bnd.row zz15 (E := 5 :: (Kd.int .u8).E) (fun _ h => h)) hu (fun k h1 h2 => bnd_apart zz8 h1 h2)) Bnd.of)
     replace P_R := Aside0.mk (Rd.updB zz13 hu zz8)
     replace HU := Aside0.mk ((zz7 : Upd S w _).trans hu (fun k hk => .inl hk.1))
     clear hu
     clear P_K hs; have P_K := Aside0.mk hs2; clear hs2
     (try clear hc_G_0 hc_G_1 hc_G_2 hc_G_3 hc_G_4 hc_G_5 hc_G_6 hc_H_0 hc_H_1 hc_H_2 hc_H_3)
     have hc_G_0 := co B_G 0 (.pointer (some ⟨gs, 0, none⟩)) rfl; have hc_G_1 := co B_G 1 (.pointer (some ⟨gr, 0, none⟩)) rfl; have hc_G_2 := co B_G 2 (.slice A0 0 c0) rfl; have hc_G_3 := co B_G 3 (.int .i64 leaf) rfl; have hc_G_4 := co B_G 4 (.int .i64 at_) rfl; have hc_G_5 := co B_G 5 (.bool begun) rfl; have hc_G_6 := co B_G 6 (.int .i64 over) rfl; have hc_H_0 := co B_H 0 (.int .i64 h1) rfl; have hc_H_1 := co B_H 1 (.int .i64 h2) rfl; have hc_H_2 := co B_H 2 (.bool true) rfl; have hc_H_3 := co B_H 3 (.int .i64 h4) rfl))
 all_goals (
  go_wp2_with (first
   | ((with_reducible refine gate_store (t := 4) (p := 46) (v := .const (.bool true)) rfl ?_)
      refine cellput rfl 4 (.tmp 46) (.const (.bool true)) rfl rfl g 5 (.bool true) rfl rfl 126 #[.pointer (some ⟨gs, 0, none⟩), .pointer (some ⟨gr, 0, none⟩), .slice A0 0 c0, .int .i64 leaf, .int .i64 at_, .bool begun, .int .i64 over] #[.pointer (some ⟨gs, 0, none⟩), .pointer (some ⟨gr, 0, none⟩), .slice A0 0 c0, .int .i64 leaf, .int .i64 at_, .bool true, .int .i64 over] zz3 zz5 zz19 rfl rfl ?_
      intro w4 hbox hu
      replace B_H := Aside0.mk (hu.blk zz18 (Ne.symm NE_G_H.out))
      replace R_C := Aside0.mk (row_updT zz15 zz3 zz8 hu)
      replace P_K := Aside0.mk (Sk.updT zz11 zz3 zz8 hu)
      replace P_R := Aside0.mk (Rd.updT zz13 zz3 zz8 hu)
      replace HU := Aside0.mk ((zz7 : Upd S w _).trans hu (fun k hk => .inl zz22))
      clear hu
      clear B_G; have B_G := Aside0.mk hbox; clear hbox
      (try clear hc_G_0 hc_G_1 hc_G_2 hc_G_3 hc_G_4 hc_G_5 hc_G_6 hc_H_0 hc_H_1 hc_H_2 hc_H_3)
      have hc_G_0 := co B_G 0 (.pointer (some ⟨gs, 0, none⟩)) rfl; have hc_G_1 := co B_G 1 (.pointer (some ⟨gr, 0, none⟩)) rfl; have hc_G_2 := co B_G 2 (.slice A0 0 c0) rfl; have hc_G_3 := co B_G 3 (.int .i64 leaf) rfl; have hc_G_4 := co B_G 4 (.int .i64 at_) rfl; have hc_G_5 := co B_G 5 (.bool true) rfl; have hc_G_6 := co B_G 6 (.int .i64 over) rfl; have hc_H_0 := co B_H 0 (.int .i64 h1) rfl; have hc_H_1 := co B_H 1 (.int .i64 h2) rfl; have hc_H_2 := co B_H 2 (.bool true) rfl; have hc_H_3 := co B_H 3 (.int .i64 h4) rfl))
  go_region
  have hu : Upd None0 w4 ((w4.alloc (.cells #[.int .i64 1, .int .i64 at_, .int .i64 h1, .int .i64 h2, .bool true, .int .i64 h4, .int .u8 0] 34)).drew) := ((Upd.refl None0 w4).alloc _).drew
  have ho2 : k34.R 34 ((w4.alloc (.cells #[.int .i64 1, .int .i64 at_, .int .i64 h1, .int .i64 h2, .bool true, .int .i64 h4, .int .u8 0] 34)).drew) 0 (New w None0) (.slice (some ⟨w4.heap.size, 0, none⟩) 1 1) [ev 1 at_ ⟨h1, h2, true, h4⟩ 0] := row_mono (Kd.R_drew (row_alloc k34 w4 34 (xs := [ev 1 at_ ⟨h1, h2, true, h4⟩ 0]) (inner := [.int .i64 1, .int .i64 at_, .int .i64 h1, .int .i64 h2, .bool true, .int .i64 h4, .int .u8 0]) (reps_one (k34_mkM _ _ _ (ev 1 at_ ⟨h1, h2, true, h4⟩ 0)) rfl) zz19)) (fun k hk => hk.elim (fun h => h.elim) (fun h => .inr (Nat.le_trans (zz7 : Upd S w _).size h)))
  replace B_G := Aside0.mk (hu.blk zz3 (fun h => h))
  replace B_H := Aside0.mk (hu.blk zz18 (fun h => h))
  replace R_C := Aside0.mk (row_upd zz15 hu (fun k hk h => h.elim))
  replace P_K := Aside0.mk (Sk.updN zz11 hu)
  replace P_R := Aside0.mk (Rd.updN zz13 hu)
  replace HU := Aside0.mk ((zz7 : Upd S w _).trans hu (fun _ h => h.elim))
  clear hu
  have R_O := Aside0.mk ho2; clear ho2
  generalize (w4.alloc (.cells #[.int .i64 1, .int .i64 at_, .int .i64 h1, .int .i64 h2, .bool true, .int .i64 h4, .int .u8 0] 34)).drew = w5 at *
  (try clear hc_G_0 hc_G_1 hc_G_2 hc_G_3 hc_G_4 hc_G_5 hc_G_6 hc_H_0 hc_H_1 hc_H_2 hc_H_3)
  have hc_G_0 := co B_G 0 (.pointer (some ⟨gs, 0, none⟩)) rfl; have hc_G_1 := co B_G 1 (.pointer (some ⟨gr, 0, none⟩)) rfl; have hc_G_2 := co B_G 2 (.slice A0 0 c0) rfl; have hc_G_3 := co B_G 3 (.int .i64 leaf) rfl; have hc_G_4 := co B_G 4 (.int .i64 at_) rfl; have hc_G_5 := co B_G 5 (.bool true) rfl; have hc_G_6 := co B_G 6 (.int .i64 over) rfl; have hc_H_0 := co B_H 0 (.int .i64 h1) rfl; have hc_H_1 := co B_H 1 (.int .i64 h2) rfl; have hc_H_2 := co B_H 2 (.bool true) rfl; have hc_H_3 := co B_H 3 (.int .i64 h4) rfl
  go_wp2
  go_ret2
  exact ⟨_, rfl, (by exact rl R_O), ⟨gs, gr, _, S2, S3, .inl IN_G.out, zz3, Sk.mono zz11 (fun k h => .inl h), zz13, (Kd.R_take (m := 0) zz15 (Nat.zero_le _)), fun k h => .inl (H2.out k h), fun k h => .inl (H3.out k h), H23.out⟩, zz7⟩)
set_option maxHeartbeats 8000000 in
set_option maxRecDepth 100000 in
theorem mach_beginE1 (g most : Nat) (came : List Int) (leaf at_ : Int) (begun : Bool) (over : Int) (h1 h2 h4 : Int) (S : Nat → Prop) (w : World) (rc : List Int) (ro : Int) (hM : Mc w S g most ⟨[], came, leaf, at_, begun, over⟩ rc ro) (hh0 : 0 ≤ h4) (hh1 : h4 ≤ 2305843009213693951) (l2 : List Int) (e2 : Int) (he : Mxm.en most ([]) h4 = (l2, e2)) (hz : e2 ≠ 0) :
 Calls Try.prog 73 #[.pointer (some ⟨g, 0, none⟩), .agg #[.int .i64 h1, .int .i64 h2, .bool true, .int .i64 h4]] w fun e w' => ∃ v, e = .returned (.tuple #[v, .int .i64 e2]) ∧ k34.R 34 w' 0 (New w None0) v ([] : List Ev) ∧ Mc w' (New w S) g most ⟨l2, [], leaf, at_, begun, over⟩ rc ro ∧ Upd S w w' := by
 obtain ⟨gs, gr, v, S2, S3, hg, hb0, hk0, hr0, hc0, h2, h3, h23⟩ := hM
 obtain ⟨A0, c0, rfl⟩ := Kd.R_slice hc0
 have HU := Aside0.mk (Upd.refl S w)
 have IN_G := Aside0.mk hg
 have B_G := Aside0.mk hb0
 have P_K := Aside0.mk hk0
 have P_R := Aside0.mk hr0
 have R_C := Aside0.mk hc0
 have H2 := Aside0.mk h2
 have H3 := Aside0.mk h3
 have H23 := Aside0.mk h23
 have hu_ := Try.underlying32
 have hu2_ := Try.underlying34
 clear hg hb0 hk0 hr0 hc0 h2 h3 h23
 have c1 : (e2 != 0) = true := bne_iff_ne.2 hz
 have HE := Aside0.mk he
 have HH0 := Aside0.mk hh0
 have HH1 := Aside0.mk hh1
 clear hz he
 have hc_G_0 := co B_G 0 (.pointer (some ⟨gs, 0, none⟩)) rfl; have hc_G_1 := co B_G 1 (.pointer (some ⟨gr, 0, none⟩)) rfl; have hc_G_2 := co B_G 2 (.slice A0 came.length c0) rfl; have hc_G_3 := co B_G 3 (.int .i64 leaf) rfl; have hc_G_4 := co B_G 4 (.int .i64 at_) rfl; have hc_G_5 := co B_G 5 (.bool begun) rfl; have hc_G_6 := co B_G 6 (.int .i64 over) rfl
 go_enter Try.func73, Try.ntmps73
 go_wp2_with (first
  | ((with_reducible refine gate_dst (N := 3) rfl ?_)
     refine boxnew ?hg (N := 3) ?hd (cs := #[.int .i64 h1, .int .i64 h2, .bool true, .int .i64 h4]) (t := 32) ?hr ?_; (case hd => rfl); (case hg => rfl); (case hr => first | (go_simp; done) | (go_simp; rfl))
     intro g_H hge w1 hbox hu
     have NE_G_H := Aside0.mk (blk_fresh zz3 hge)
     have GE_H := Aside0.mk (Nat.le_trans (zz7 : Upd S w _).size hge)
     replace B_G := Aside0.mk (hu.blk zz3 (fun h => h))
     replace R_C := Aside0.mk (row_upd zz15 hu (fun k hk h => h.elim))
     replace P_K := Aside0.mk (Sk.updN zz11 hu)
     replace P_R := Aside0.mk (Rd.updN zz13 hu)
     replace HU := Aside0.mk ((zz7 : Upd S w _).trans hu (fun _ h => h.elim))
     clear hu
     have B_H := Aside0.mk hbox; clear hbox hge
     (try clear hc_G_0 hc_G_1 hc_G_2 hc_G_3 hc_G_4 hc_G_5 hc_G_6)
     have hc_G_0 := co B_G 0 (.pointer (some ⟨gs, 0, none⟩)) rfl; have hc_G_1 := co B_G 1 (.pointer (some ⟨gr, 0, none⟩)) rfl; have hc_G_2 := co B_G 2 (.slice A0 came.length c0) rfl; have hc_G_3 := co B_G 3 (.int .i64 leaf) rfl; have hc_G_4 := co B_G 4 (.int .i64 at_) rfl; have hc_G_5 := co B_G 5 (.bool begun) rfl; have hc_G_6 := co B_G 6 (.int .i64 over) rfl; have hc_H_0 := co B_H 0 (.int .i64 h1) rfl; have hc_H_1 := co B_H 1 (.int .i64 h2) rfl; have hc_H_2 := co B_H 2 (.bool true) rfl; have hc_H_3 := co B_H 3 (.int .i64 h4) rfl))
 go_quiet ((first | (go_at_call 57; refine Calls.quiet_of_same (stack_depth gs most [] S _ ?_); (repeat (first | (with_reducible exact P_K.out) | apply Sk.drew | apply Sk.drewN | apply Sk.alloc))) | (go_at_call 87; refine Calls.quiet_of (stack_leftQ gs most x r S _ ?_); (repeat (first | (with_reducible exact P_K.out) | apply Sk.drew | apply Sk.drewN | apply Sk.alloc)))))
 go_wp2_with (first
  | ((with_reducible refine gate_store (t := 124) (p := 31) (v := .tmp 29) rfl ?_)
     refine cellput rfl 124 (.tmp 31) (.tmp 29) rfl rfl g 2 (.slice A0 0 c0) rfl rfl 126 #[.pointer (some ⟨gs, 0, none⟩), .pointer (some ⟨gr, 0, none⟩), .slice A0 came.length c0, .int .i64 leaf, .int .i64 at_, .bool begun, .int .i64 over] #[.pointer (some ⟨gs, 0, none⟩), .pointer (some ⟨gr, 0, none⟩), .slice A0 0 c0, .int .i64 leaf, .int .i64 at_, .bool begun, .int .i64 over] zz3 zz5 zz19 rfl rfl ?_
     intro w2 hbox hu
     replace B_H := Aside0.mk (hu.blk zz18 (Ne.symm NE_G_H.out))
     replace R_C := Aside0.mk (row_updT zz15 zz3 zz8 hu)
     replace P_K := Aside0.mk (Sk.updT zz11 zz3 zz8 hu)
     replace P_R := Aside0.mk (Rd.updT zz13 zz3 zz8 hu)
     replace HU := Aside0.mk ((zz7 : Upd S w _).trans hu (fun k hk => .inl zz22))
     clear hu
     clear B_G; have B_G := Aside0.mk hbox; clear hbox
     (try clear hc_G_0 hc_G_1 hc_G_2 hc_G_3 hc_G_4 hc_G_5 hc_G_6 hc_H_0 hc_H_1 hc_H_2 hc_H_3)
     have hc_G_0 := co B_G 0 (.pointer (some ⟨gs, 0, none⟩)) rfl; have hc_G_1 := co B_G 1 (.pointer (some ⟨gr, 0, none⟩)) rfl; have hc_G_2 := co B_G 2 (.slice A0 0 c0) rfl; have hc_G_3 := co B_G 3 (.int .i64 leaf) rfl; have hc_G_4 := co B_G 4 (.int .i64 at_) rfl; have hc_G_5 := co B_G 5 (.bool begun) rfl; have hc_G_6 := co B_G 6 (.int .i64 over) rfl; have hc_H_0 := co B_H 0 (.int .i64 h1) rfl; have hc_H_1 := co B_H 1 (.int .i64 h2) rfl; have hc_H_2 := co B_H 2 (.bool true) rfl; have hc_H_3 := co B_H 3 (.int .i64 h4) rfl))
 go_region_with (first
  | (go_at_call 88
     (with_reducible refine (stack_enterE gs most ([]) l2 h4 e2 _ _ (Sk.bnd zz11) HH0.out HH1.out HE.out).mono ?_)
     rintro e w3 ⟨rfl, hs, hu⟩
     have hs2 := hs.mono Bnd.of
     replace B_G := Aside0.mk (hu.blk zz3 (Bnd.ne zz3 zz8))
     replace B_H := Aside0.mk (hu.blk zz18 (Bnd.ne zz18 zz8))
     replace R_C := Aside0.mk (row_mono (row_upd (Bnd.row zz15 (E := 5 :: (Kd.int .u8).E) (fun _ h => h)) hu (fun k h1 h2 => bnd_apart zz8 h1 h2)) Bnd.of)
     replace P_R := Aside0.mk (Rd.updB zz13 hu zz8)
     replace HU := Aside0.mk ((zz7 : Upd S w _).trans hu (fun k hk => .inl hk.1))
     clear hu
     clear P_K hs; have P_K := Aside0.mk hs2; clear hs2
     (try clear hc_G_0 hc_G_1 hc_G_2 hc_G_3 hc_G_4 hc_G_5 hc_G_6 hc_H_0 hc_H_1 hc_H_2 hc_H_3)
     have hc_G_0 := co B_G 0 (.pointer (some ⟨gs, 0, none⟩)) rfl; have hc_G_1 := co B_G 1 (.pointer (some ⟨gr, 0, none⟩)) rfl; have hc_G_2 := co B_G 2 (.slice A0 0 c0) rfl; have hc_G_3 := co B_G 3 (.int .i64 leaf) rfl; have hc_G_4 := co B_G 4 (.int .i64 at_) rfl; have hc_G_5 := co B_G 5 (.bool begun) rfl; have hc_G_6 := co B_G 6 (.int .i64 over) rfl; have hc_H_0 := co B_H 0 (.int .i64 h1) rfl; have hc_H_1 := co B_H 1 (.int .i64 h2) rfl; have hc_H_2 := co B_H 2 (.bool true) rfl; have hc_H_3 := co B_H 3 (.int .i64 h4) rfl))
 all_goals (
  go_wp2
  go_ret2
  exact ⟨_, rfl, Kd.R_nil _ _ _ _ _, ⟨gs, gr, _, S2, S3, .inl IN_G.out, zz3, Sk.mono zz11 (fun k h => .inl h), zz13, (Kd.R_take (m := 0) zz15 (Nat.zero_le _)), fun k h => .inl (H2.out k h), fun k h => .inl (H3.out k h), H23.out⟩, zz7⟩)
set_option maxHeartbeats 8000000 in
set_option maxRecDepth 100000 in
theorem mach_beginC1 (g most : Nat) (came : List Int) (leaf at_ : Int) (begun : Bool) (over : Int) (h1 h2 h4 : Int) (S : Nat → Prop) (w : World) (rc : List Int) (ro : Int) (hM : Mc w S g most ⟨[], came, leaf, at_, begun, over⟩ rc ro) (hh0 : 0 ≤ h4) (hh1 : h4 ≤ 2305843009213693951) (l2 : List Int) (he : Mxm.en most ([]) h4 = (l2, 0)) :
 Calls Try.prog 73 #[.pointer (some ⟨g, 0, none⟩), .agg #[.int .i64 h1, .int .i64 h2, .bool true, .int .i64 h4]] w fun e w' => ∃ v, e = .returned (.tuple #[v, .int .i64 0]) ∧ k34.R 34 w' 0 (New w None0) v ([ev 1 at_ ⟨h1, h2, true, h4⟩ 0] : List Ev) ∧ Mc w' (New w S) g most ⟨l2, [], leaf, at_, true, over⟩ rc ro ∧ Upd S w w' := by
 obtain ⟨gs, gr, v, S2, S3, hg, hb0, hk0, hr0, hc0, h2, h3, h23⟩ := hM
 obtain ⟨A0, c0, rfl⟩ := Kd.R_slice hc0
 have HU := Aside0.mk (Upd.refl S w)
 have IN_G := Aside0.mk hg
 have B_G := Aside0.mk hb0
 have P_K := Aside0.mk hk0
 have P_R := Aside0.mk hr0
 have R_C := Aside0.mk hc0
 have H2 := Aside0.mk h2
 have H3 := Aside0.mk h3
 have H23 := Aside0.mk h23
 have hu_ := Try.underlying32
 have hu2_ := Try.underlying34
 clear hg hb0 hk0 hr0 hc0 h2 h3 h23
 have HE := Aside0.mk he
 have HH0 := Aside0.mk hh0
 have HH1 := Aside0.mk hh1
 clear he
 have hc_G_0 := co B_G 0 (.pointer (some ⟨gs, 0, none⟩)) rfl; have hc_G_1 := co B_G 1 (.pointer (some ⟨gr, 0, none⟩)) rfl; have hc_G_2 := co B_G 2 (.slice A0 came.length c0) rfl; have hc_G_3 := co B_G 3 (.int .i64 leaf) rfl; have hc_G_4 := co B_G 4 (.int .i64 at_) rfl; have hc_G_5 := co B_G 5 (.bool begun) rfl; have hc_G_6 := co B_G 6 (.int .i64 over) rfl
 go_enter Try.func73, Try.ntmps73
 go_wp2_with (first
  | ((with_reducible refine gate_dst (N := 3) rfl ?_)
     refine boxnew ?hg (N := 3) ?hd (cs := #[.int .i64 h1, .int .i64 h2, .bool true, .int .i64 h4]) (t := 32) ?hr ?_; (case hd => rfl); (case hg => rfl); (case hr => first | (go_simp; done) | (go_simp; rfl))
     intro g_H hge w1 hbox hu
     have NE_G_H := Aside0.mk (blk_fresh zz3 hge)
     have GE_H := Aside0.mk (Nat.le_trans (zz7 : Upd S w _).size hge)
     replace B_G := Aside0.mk (hu.blk zz3 (fun h => h))
     replace R_C := Aside0.mk (row_upd zz15 hu (fun k hk h => h.elim))
     replace P_K := Aside0.mk (Sk.updN zz11 hu)
     replace P_R := Aside0.mk (Rd.updN zz13 hu)
     replace HU := Aside0.mk ((zz7 : Upd S w _).trans hu (fun _ h => h.elim))
     clear hu
     have B_H := Aside0.mk hbox; clear hbox hge
     (try clear hc_G_0 hc_G_1 hc_G_2 hc_G_3 hc_G_4 hc_G_5 hc_G_6)
     have hc_G_0 := co B_G 0 (.pointer (some ⟨gs, 0, none⟩)) rfl; have hc_G_1 := co B_G 1 (.pointer (some ⟨gr, 0, none⟩)) rfl; have hc_G_2 := co B_G 2 (.slice A0 came.length c0) rfl; have hc_G_3 := co B_G 3 (.int .i64 leaf) rfl; have hc_G_4 := co B_G 4 (.int .i64 at_) rfl; have hc_G_5 := co B_G 5 (.bool begun) rfl; have hc_G_6 := co B_G 6 (.int .i64 over) rfl; have hc_H_0 := co B_H 0 (.int .i64 h1) rfl; have hc_H_1 := co B_H 1 (.int .i64 h2) rfl; have hc_H_2 := co B_H 2 (.bool true) rfl; have hc_H_3 := co B_H 3 (.int .i64 h4) rfl))
 go_quiet ((first | (go_at_call 57; refine Calls.quiet_of_same (stack_depth gs most [] S _ ?_); (repeat (first | (with_reducible exact P_K.out) | apply Sk.drew | apply Sk.drewN | apply Sk.alloc))) | (go_at_call 87; refine Calls.quiet_of (stack_leftQ gs most x r S _ ?_); (repeat (first | (with_reducible exact P_K.out) | apply Sk.drew | apply Sk.drewN | apply Sk.alloc)))))
 go_wp2_with (first
  | ((with_reducible refine gate_store (t := 124) (p := 31) (v := .tmp 29) rfl ?_)
     refine cellput rfl 124 (.tmp 31) (.tmp 29) rfl rfl g 2 (.slice A0 0 c0) rfl rfl 126 #[.pointer (some ⟨gs, 0, none⟩), .pointer (some ⟨gr, 0, none⟩), .slice A0 came.length c0, .int .i64 leaf, .int .i64 at_, .bool begun, .int .i64 over] #[.pointer (some ⟨gs, 0, none⟩), .pointer (some ⟨gr, 0, none⟩), .slice A0 0 c0, .int .i64 leaf, .int .i64 at_, .bool begun, .int .i64 over] zz3 zz5 zz19 rfl rfl ?_
     intro w2 hbox hu
     replace B_H := Aside0.mk (hu.blk zz18 (Ne.symm NE_G_H.out))
     replace R_C := Aside0.mk (row_updT zz15 zz3 zz8 hu)
     replace P_K := Aside0.mk (Sk.updT zz11 zz3 zz8 hu)
     replace P_R := Aside0.mk (Rd.updT zz13 zz3 zz8 hu)
     replace HU := Aside0.mk ((zz7 : Upd S w _).trans hu (fun k hk => .inl zz22))
     clear hu
     clear B_G; have B_G := Aside0.mk hbox; clear hbox
     (try clear hc_G_0 hc_G_1 hc_G_2 hc_G_3 hc_G_4 hc_G_5 hc_G_6 hc_H_0 hc_H_1 hc_H_2 hc_H_3)
     have hc_G_0 := co B_G 0 (.pointer (some ⟨gs, 0, none⟩)) rfl; have hc_G_1 := co B_G 1 (.pointer (some ⟨gr, 0, none⟩)) rfl; have hc_G_2 := co B_G 2 (.slice A0 0 c0) rfl; have hc_G_3 := co B_G 3 (.int .i64 leaf) rfl; have hc_G_4 := co B_G 4 (.int .i64 at_) rfl; have hc_G_5 := co B_G 5 (.bool begun) rfl; have hc_G_6 := co B_G 6 (.int .i64 over) rfl; have hc_H_0 := co B_H 0 (.int .i64 h1) rfl; have hc_H_1 := co B_H 1 (.int .i64 h2) rfl; have hc_H_2 := co B_H 2 (.bool true) rfl; have hc_H_3 := co B_H 3 (.int .i64 h4) rfl))
 go_region_with (first
  | (go_at_call 88
     (with_reducible refine (stack_enterE gs most ([]) l2 h4 0 _ _ (Sk.bnd zz11) HH0.out HH1.out HE.out).mono ?_)
     rintro e w3 ⟨rfl, hs, hu⟩
     have hs2 := hs.mono Bnd.of
     replace B_G := Aside0.mk (hu.blk zz3 (Bnd.ne zz3 zz8))
     replace B_H := Aside0.mk (hu.blk zz18 (Bnd.ne zz18 zz8))
     replace R_C := Aside0.mk (row_mono (row_upd (Bnd.row zz15 (E := 5 :: (Kd.int .u8).E) (fun _ h => h)) hu (fun k h1 h2 => bnd_apart zz8 h1 h2)) Bnd.of)
     replace P_R := Aside0.mk (Rd.updB zz13 hu zz8)
     replace HU := Aside0.mk ((zz7 : Upd S w _).trans hu (fun k hk => .inl hk.1))
     clear hu
     clear P_K hs; have P_K := Aside0.mk hs2; clear hs2
     (try clear hc_G_0 hc_G_1 hc_G_2 hc_G_3 hc_G_4 hc_G_5 hc_G_6 hc_H_0 hc_H_1 hc_H_2 hc_H_3)
     have hc_G_0 := co B_G 0 (.pointer (some ⟨gs, 0, none⟩)) rfl; have hc_G_1 := co B_G 1 (.pointer (some ⟨gr, 0, none⟩)) rfl; have hc_G_2 := co B_G 2 (.slice A0 0 c0) rfl; have hc_G_3 := co B_G 3 (.int .i64 leaf) rfl; have hc_G_4 := co B_G 4 (.int .i64 at_) rfl; have hc_G_5 := co B_G 5 (.bool begun) rfl; have hc_G_6 := co B_G 6 (.int .i64 over) rfl; have hc_H_0 := co B_H 0 (.int .i64 h1) rfl; have hc_H_1 := co B_H 1 (.int .i64 h2) rfl; have hc_H_2 := co B_H 2 (.bool true) rfl; have hc_H_3 := co B_H 3 (.int .i64 h4) rfl))
 all_goals (
  go_wp2_with (first
   | ((with_reducible refine gate_store (t := 4) (p := 46) (v := .const (.bool true)) rfl ?_)
      refine cellput rfl 4 (.tmp 46) (.const (.bool true)) rfl rfl g 5 (.bool true) rfl rfl 126 #[.pointer (some ⟨gs, 0, none⟩), .pointer (some ⟨gr, 0, none⟩), .slice A0 0 c0, .int .i64 leaf, .int .i64 at_, .bool begun, .int .i64 over] #[.pointer (some ⟨gs, 0, none⟩), .pointer (some ⟨gr, 0, none⟩), .slice A0 0 c0, .int .i64 leaf, .int .i64 at_, .bool true, .int .i64 over] zz3 zz5 zz19 rfl rfl ?_
      intro w4 hbox hu
      replace B_H := Aside0.mk (hu.blk zz18 (Ne.symm NE_G_H.out))
      replace R_C := Aside0.mk (row_updT zz15 zz3 zz8 hu)
      replace P_K := Aside0.mk (Sk.updT zz11 zz3 zz8 hu)
      replace P_R := Aside0.mk (Rd.updT zz13 zz3 zz8 hu)
      replace HU := Aside0.mk ((zz7 : Upd S w _).trans hu (fun k hk => .inl zz22))
      clear hu
      clear B_G; have B_G := Aside0.mk hbox; clear hbox
      (try clear hc_G_0 hc_G_1 hc_G_2 hc_G_3 hc_G_4 hc_G_5 hc_G_6 hc_H_0 hc_H_1 hc_H_2 hc_H_3)
      have hc_G_0 := co B_G 0 (.pointer (some ⟨gs, 0, none⟩)) rfl; have hc_G_1 := co B_G 1 (.pointer (some ⟨gr, 0, none⟩)) rfl; have hc_G_2 := co B_G 2 (.slice A0 0 c0) rfl; have hc_G_3 := co B_G 3 (.int .i64 leaf) rfl; have hc_G_4 := co B_G 4 (.int .i64 at_) rfl; have hc_G_5 := co B_G 5 (.bool true) rfl; have hc_G_6 := co B_G 6 (.int .i64 over) rfl; have hc_H_0 := co B_H 0 (.int .i64 h1) rfl; have hc_H_1 := co B_H 1 (.int .i64 h2) rfl; have hc_H_2 := co B_H 2 (.bool true) rfl; have hc_H_3 := co B_H 3 (.int .i64 h4) rfl))
  go_region
  have hu : Upd None0 w4 ((w4.alloc (.cells #[.int .i64 1, .int .i64 at_, .int .i64 h1, .int .i64 h2, .bool true, .int .i64 h4, .int .u8 0] 34)).drew) := ((Upd.refl None0 w4).alloc _).drew
  have ho2 : k34.R 34 ((w4.alloc (.cells #[.int .i64 1, .int .i64 at_, .int .i64 h1, .int .i64 h2, .bool true, .int .i64 h4, .int .u8 0] 34)).drew) 0 (New w None0) (.slice (some ⟨w4.heap.size, 0, none⟩) 1 1) [ev 1 at_ ⟨h1, h2, true, h4⟩ 0] := row_mono (Kd.R_drew (row_alloc k34 w4 34 (xs := [ev 1 at_ ⟨h1, h2, true, h4⟩ 0]) (inner := [.int .i64 1, .int .i64 at_, .int .i64 h1, .int .i64 h2, .bool true, .int .i64 h4, .int .u8 0]) (reps_one (k34_mkM _ _ _ (ev 1 at_ ⟨h1, h2, true, h4⟩ 0)) rfl) zz19)) (fun k hk => hk.elim (fun h => h.elim) (fun h => .inr (Nat.le_trans (zz7 : Upd S w _).size h)))
  replace B_G := Aside0.mk (hu.blk zz3 (fun h => h))
  replace B_H := Aside0.mk (hu.blk zz18 (fun h => h))
  replace R_C := Aside0.mk (row_upd zz15 hu (fun k hk h => h.elim))
  replace P_K := Aside0.mk (Sk.updN zz11 hu)
  replace P_R := Aside0.mk (Rd.updN zz13 hu)
  replace HU := Aside0.mk ((zz7 : Upd S w _).trans hu (fun _ h => h.elim))
  clear hu
  have R_O := Aside0.mk ho2; clear ho2
  generalize (w4.alloc (.cells #[.int .i64 1, .int .i64 at_, .int .i64 h1, .int .i64 h2, .bool true, .int .i64 h4, .int .u8 0] 34)).drew = w5 at *
  (try clear hc_G_0 hc_G_1 hc_G_2 hc_G_3 hc_G_4 hc_G_5 hc_G_6 hc_H_0 hc_H_1 hc_H_2 hc_H_3)
  have hc_G_0 := co B_G 0 (.pointer (some ⟨gs, 0, none⟩)) rfl; have hc_G_1 := co B_G 1 (.pointer (some ⟨gr, 0, none⟩)) rfl; have hc_G_2 := co B_G 2 (.slice A0 0 c0) rfl; have hc_G_3 := co B_G 3 (.int .i64 leaf) rfl; have hc_G_4 := co B_G 4 (.int .i64 at_) rfl; have hc_G_5 := co B_G 5 (.bool true) rfl; have hc_G_6 := co B_G 6 (.int .i64 over) rfl; have hc_H_0 := co B_H 0 (.int .i64 h1) rfl; have hc_H_1 := co B_H 1 (.int .i64 h2) rfl; have hc_H_2 := co B_H 2 (.bool true) rfl; have hc_H_3 := co B_H 3 (.int .i64 h4) rfl
  go_wp2
  go_ret2
  exact ⟨_, rfl, (by exact rl R_O), ⟨gs, gr, _, S2, S3, .inl IN_G.out, zz3, Sk.mono zz11 (fun k h => .inl h), zz13, (Kd.R_take (m := 0) zz15 (Nat.zero_le _)), fun k h => .inl (H2.out k h), fun k h => .inl (H3.out k h), H23.out⟩, zz7⟩)
theorem mach_content (g most : Nat) (s : St) (b : Int) (S : Nat → Prop) (w : World) (rc : List Int) (ro : Int) (hM : Mc w S g most s rc ro) (hl0 : 0 < s.leaf) (hl1 : s.leaf ≤ 2305843009213693951) :
 Calls Try.prog 70 #[.pointer (some ⟨g, 0, none⟩), .int .u8 b] w fun e w' => ∃ v, e = .returned v ∧ k34.R 34 w' 0 (New w None0) v (contentM s b).2 ∧ Mc w' (New w S) g most (contentM s b).1 rc ro ∧ Upd S w w' := by
 by_cases h : s.leaf - 1 = 0
 ·
  exact mach_content1 g most s b S w rc ro hM hl0 hl1 h
 ·
  exact mach_content0 g most s b S w rc ro hM hl0 hl1 h
theorem mach_begin (g most : Nat) (s : St) (h : Hd) (S : Nat → Prop) (w : World) (rc : List Int) (ro : Int) (hM : Mc w S g most s rc ro) (hh0 : 0 ≤ h.f3) (hh1 : h.f3 ≤ 2305843009213693951) :
 Calls Try.prog 73 #[.pointer (some ⟨g, 0, none⟩), .agg #[.int .i64 h.f0, .int .i64 h.f1, .bool h.f2, .int .i64 h.f3]] w fun e w' => ∃ v, e = .returned (.tuple #[v, .int .i64 (beginM most s h).2.2]) ∧ k34.R 34 w' 0 (New w None0) v (beginM most s h).2.1 ∧ Mc w' (New w S) g most (beginM most s h).1 rc ro ∧ Upd S w w' := by
 obtain ⟨left, came, leaf, at_, begun, over⟩ := s
 obtain ⟨h1, h2, h3, h4⟩ := h
 simp only at hh0 hh1
 cases left with
 | nil =>
   cases h3 with
   | false =>
     by_cases hz : h4 = 0
     ·
      have e : beginM most ⟨[], came, leaf, at_, begun, over⟩ ⟨h1, h2, false, h4⟩ = (⟨[], [], h4, at_, true, over⟩, [ev 2 at_ ⟨h1, h2, false, h4⟩ 0, ev 4 at_ h0 0], 0) := by simp [beginM, ends, hz]
      rw [e]
      exact mach_beginL11 g most came leaf at_ begun over h1 h2 h4 S w rc ro hM hh0 hh1 hz
     ·
      have e : beginM most ⟨[], came, leaf, at_, begun, over⟩ ⟨h1, h2, false, h4⟩ = (⟨[], [], h4, at_, true, over⟩, [ev 2 at_ ⟨h1, h2, false, h4⟩ 0], 0) := by simp [beginM, ends, hz]
      rw [e]
      exact mach_beginL10 g most came leaf at_ begun over h1 h2 h4 S w rc ro hM hh0 hh1 hz
   | true =>
     obtain ⟨⟨l2, e2⟩, he⟩ : ∃ q, Mxm.en most [] h4 = q := ⟨_, rfl⟩
     by_cases hz : e2 = 0
     ·
      subst hz
      have e : beginM most ⟨[], came, leaf, at_, begun, over⟩ ⟨h1, h2, true, h4⟩ = (⟨l2, [], leaf, at_, true, over⟩, [ev 1 at_ ⟨h1, h2, true, h4⟩ 0], 0) := by simp [beginM, he]
      rw [e]
      exact mach_beginC1 g most came leaf at_ begun over h1 h2 h4 S w rc ro hM hh0 hh1 l2 he
     ·
      have e : beginM most ⟨[], came, leaf, at_, begun, over⟩ ⟨h1, h2, true, h4⟩ = (⟨l2, [], leaf, at_, begun, over⟩, [], e2) := by simp [beginM, he, hz]
      rw [e]
      exact mach_beginE1 g most came leaf at_ begun over h1 h2 h4 S w rc ro hM hh0 hh1 l2 e2 he hz
 | cons x r =>
   by_cases hf : x < h4
   ·
    have e : beginM most ⟨x :: r, came, leaf, at_, begun, over⟩ ⟨h1, h2, h3, h4⟩ = (⟨x :: r, came, leaf, at_, begun, over⟩, [], 5) := by simp [beginM, hf]
    rw [e]
    exact mach_beginF g most x r came leaf at_ begun over h1 h2 h3 h4 S w rc ro hM hh0 hh1 hf
   ·
    have hf2 : h4 ≤ x := by omega
    cases h3 with
    | false =>
      by_cases hz : h4 = 0
      ·
       have e : beginM most ⟨x :: r, came, leaf, at_, begun, over⟩ ⟨h1, h2, false, h4⟩ = (⟨x :: r, [], h4, at_, true, over⟩, [ev 2 at_ ⟨h1, h2, false, h4⟩ 0, ev 4 at_ h0 0], 0) := by subst hz; simp [beginM, ends, hf]
       rw [e]
       exact mach_beginL01 g most x r came leaf at_ begun over h1 h2 h4 S w rc ro hM hh0 hh1 hf2 hz
      ·
       have e : beginM most ⟨x :: r, came, leaf, at_, begun, over⟩ ⟨h1, h2, false, h4⟩ = (⟨x :: r, [], h4, at_, true, over⟩, [ev 2 at_ ⟨h1, h2, false, h4⟩ 0], 0) := by simp [beginM, ends, hf, hz]
       rw [e]
       exact mach_beginL00 g most x r came leaf at_ begun over h1 h2 h4 S w rc ro hM hh0 hh1 hf2 hz
    | true =>
      obtain ⟨⟨l2, e2⟩, he⟩ : ∃ q, Mxm.en most (x :: r) h4 = q := ⟨_, rfl⟩
      by_cases hz : e2 = 0
      ·
       subst hz
       have e : beginM most ⟨x :: r, came, leaf, at_, begun, over⟩ ⟨h1, h2, true, h4⟩ = (⟨l2, [], leaf, at_, true, over⟩, [ev 1 at_ ⟨h1, h2, true, h4⟩ 0], 0) := by simp [beginM, he, hf]
       rw [e]
       exact mach_beginC0 g most x r came leaf at_ begun over h1 h2 h4 S w rc ro hM hh0 hh1 hf2 l2 he
      ·
       have e : beginM most ⟨x :: r, came, leaf, at_, begun, over⟩ ⟨h1, h2, true, h4⟩ = (⟨l2, [], leaf, at_, begun, over⟩, [], e2) := by simp [beginM, he, hz, hf]
       rw [e]
       exact mach_beginE0 g most x r came leaf at_ begun over h1 h2 h4 S w rc ro hM hh0 hh1 hf2 l2 e2 he hz
theorem Mc.blk {w : World} {S : Nat → Prop} {g most : Nat} {s : St} {rc : List Int} {ro : Int} (h : Mc w S g most s rc ro) : ∃ gs gr v, w.heap[g]? = some (.cells #[.pointer (some ⟨gs, 0, none⟩), .pointer (some ⟨gr, 0, none⟩), v, .int .i64 s.leaf, .int .i64 s.at_, .bool s.begun, .int .i64 s.over] 126 (0, 0)) ∧ S g ∧ Sk w S gs most s.left ∧ (Kd.int .u8).R 5 w 0 S v s.came := by
 obtain ⟨gs, gr, v, S2, S3, hg, hb, hk, hr, hc, h2, h3, h23⟩ := h
 exact ⟨gs, gr, v, hb, hg, hk, row_mono hc h3⟩
end Go.Proofs.Ytcfommconnlhgaa.PC
