-- Written by a program of this session (print2, a turned print): not PRINTED BY print.sh
import Derived.Test.YtomaajagncjiiaaPCx6p1
namespace Go.Proofs.Ytomaajagncjiiaa.PC
open Go.RowKit Go.Proofs.YtomaajagncjiiaaW.PrintWords Go.Proofs.YtomaajagncjiiaaW.PrintLast Go.Proofs.YtomaajagncjiiaaW.PrintMore
attribute [local go_sem] max2_int min2_int max_two min_two max_three min_three max_four min_four   -- for this text's walks alone
set_option linter.unusedVariables false
set_option linter.unusedSimpArgs false


open Go.Proofs.Ytomaajagncjiiaa.Own
theorem infoU8 : (Try.prog.info? 5).map (fun i => (i.zero, i.size, i.bytes)) = some (some (.int .u8 0), 1, 1) := by kernel_rfl
/-- The reader's state: what came, and the error. -/
def Rd (w : World) (S : Nat → Prop) (g : Nat) (came : List Int) (over : Int) : Prop :=
  S g ∧ ∃ v, w.heap[g]? = some (.cells #[v, .int .i64 over] 72 (0, 0)) ∧ (Kd.int .u8).R 5 w 0 S v came
theorem Rd.upd {w W : World} {S T : Nat → Prop} {g : Nat} {came : List Int} {over : Int} (h : Rd w S g came over) (hu : Upd T w W) (hd : ∀ k, S k → ¬ T k) : Rd W S g came over := by
  obtain ⟨hg, v, hb, hr⟩ := h
  exact ⟨hg, v, hu.blk hb (hd g hg), row_upd hr hu hd⟩
theorem Rd.mono {w : World} {S S' : Nat → Prop} {g : Nat} {came : List Int} {over : Int} (h : Rd w S g came over) (hs : ∀ k, S k → S' k) : Rd w S' g came over := by
  obtain ⟨hg, v, hb, hr⟩ := h
  exact ⟨hs g hg, v, hb, row_mono hr hs⟩
theorem Rd.old {w : World} {S : Nat → Prop} {g : Nat} {came : List Int} {over : Int} (h : Rd w S g came over) : Rd w (fun k => S k ∧ k < w.heap.size) g came over := by
  obtain ⟨hg, v, hb, hr⟩ := h
  exact ⟨⟨hg, blk_lt hb⟩, v, hb, row_old hr⟩
theorem Rd.bnd {w : World} {S : Nat → Prop} {g : Nat} {came : List Int} {over : Int} (h : Rd w S g came over) : Rd w (Bnd w [72, 5] S) g came over := by
  obtain ⟨hg, v, hb, hr⟩ := h
  exact ⟨Bnd.blk hg hb (by decide), v, hb, Bnd.row hr (by decide)⟩
theorem Rd.drew {w : World} {S : Nat → Prop} {g : Nat} {came : List Int} {over : Int} (h : Rd w S g came over) : Rd w.drew S g came over := h.upd (Upd.drew (Upd.refl None0 w)) (fun _ _ h => h)
theorem Rd.drewN {w : World} {S : Nat → Prop} {g : Nat} {came : List Int} {over : Int} (h : Rd w S g came over) (n : Nat) : Rd (w.drewN n) S g came over := h.upd (Upd.drewN (Upd.refl None0 w) n) (fun _ _ h => h)
theorem Rd.alloc {w : World} {S : Nat → Prop} {g : Nat} {came : List Int} {over : Int} (h : Rd w S g came over) (o : Obj) : Rd (w.alloc o) S g came over := h.upd (Upd.alloc (Upd.refl None0 w) o) (fun _ _ h => h)
theorem Rd.updN {w W : World} {S : Nat → Prop} {g : Nat} {came : List Int} {over : Int} (h : Rd w S g came over) (hu : Upd None0 w W) : Rd W S g came over := h.upd hu (fun _ _ h => h)
theorem Rd.updT {w W : World} {S : Nat → Prop} {g : Nat} {came : List Int} {over : Int} (h : Rd w S g came over) {g' t : Nat} {cs : Array Value} (hb : w.heap[g']? = some (.cells cs t (0, 0))) (ht : ∀ q, q ∈ [72, 5] → q ≠ t) (hu : Upd (fun k => k = g') w W) : Rd W S g came over := (h.bnd.upd hu (Bnd.ne_one hb ht)).mono Bnd.of
theorem Rd.updR {w W : World} {S : Nat → Prop} {g : Nat} {came : List Int} {over : Int} {T : Nat → Prop} {α : Type} {d : Kd α} {e : Nat} {v' : Value} {xs : List α} (h : Rd w S g came over) (hr : d.R e w 0 T v' xs) (ht : ∀ q, q ∈ [72, 5] → q ≠ e) (hu : Upd (fun k => some k = v'.ownBlock) w W) : Rd W S g came over := (h.bnd.upd hu (Bnd.ne_row hr ht)).mono Bnd.of
theorem Rd.updB {w W : World} {S : Nat → Prop} {g : Nat} {came : List Int} {over : Int} {T : Nat → Prop} {E' : List Nat} (h : Rd w S g came over) (hu : Upd (Bnd w E' T) w W) (hE : ∀ q, q ∈ [72, 5] → q ∉ E') : Rd W S g came over := (h.bnd.upd hu (fun k h1 h2 => bnd_apart hE h1 h2)).mono Bnd.of
theorem Rd.setT {w : World} {S : Nat → Prop} {g : Nat} {came : List Int} {over : Int} (h : Rd w S g came over) {g' t : Nat} (hb : BlkT w g' t) (ht : ∀ q, q ∈ [72, 5] → q ≠ t) (i : Nat) (u : Value) : Rd (w.setCell ⟨g', i, none⟩ u) S g came over := by
  obtain ⟨cs, hb⟩ := hb
  exact h.updT hb ht (by rw [setCell_eq_setRow w g' i cs t (0, 0) u hb]; exact upd_setRow _ _ _)
/-- What a byte does: the head, whether it is whole, the error; what came, and the error, then. -/
def rdp (came : List Int) (over b : Int) (t : Int × Int × Bool × Int × Int × Int) : (Int × Int × Bool × Int) × Bool × Int × List Int × Int :=
  if over ≠ 0 then ((0, 0, false, 0), false, over, came, over)
  else if t.2.2.2.2.2 = 0 then ((t.1, t.2.1, t.2.2.1, t.2.2.2.1), true, 0, [], 0)
  else if t.2.2.2.2.2 = 2 then ((0, 0, false, 0), false, 0, came ++ [b], 0)
  else ((0, 0, false, 0), false, t.2.2.2.2.2, came ++ [b], t.2.2.2.2.2)
set_option maxHeartbeats 4000000 in
set_option maxRecDepth 100000 in
theorem reader_over (g : Nat) (came : List Int) (over b : Int) (S : Nat → Prop) (w : World) (hR : Rd w S g came over) (ho : over ≠ 0) :
    Calls Try.prog 32 #[.pointer (some ⟨g, 0, none⟩), .int .u8 b] w fun e w' => e = .returned (.tuple #[.agg #[.int .i64 0, .int .i64 0, .bool false, .int .i64 0], .bool false, .int .i64 over]) ∧ Rd w' (New w S) g came over ∧ Upd S w w' := by
  obtain ⟨hg, v, hb0, hr0⟩ := hR
  obtain ⟨A0, c0, rfl⟩ := Kd.R_slice hr0
  have HU := Aside0.mk (Upd.refl S w)
  have IN_G := Aside0.mk hg
  have B_G := Aside0.mk hb0
  have R_C := Aside0.mk (row_mono hr0 (fun k h => (.inl h : New w S k)))
  have hu_ := Try.underlying34
  clear hg hb0 hr0
  have c1 : (over != 0) = true := bne_iff_ne.2 ho
  have hc_0 : w.cell? ⟨g, 1, none⟩ = some (.int .i64 over) := (blk_cell B_G.out 1).trans rfl
  clear hc_0
  go_enter Try.func32, Try.ntmps32
  go_wp2_with (first
    | ((with_reducible refine gate_dst (N := 4) rfl ?_)
       refine boxnew ?hg (N := 4) ?hd (cs := #[.int .i64 0, .int .i64 0, .bool false, .int .i64 0]) (t := 34) ?hr ?_; (case hd => rfl); (case hg => rfl); (case hr => first | (go_simp; done) | (go_simp; rfl))
       intro g_R hge w1 hbox hu
       have NE_G_R := Aside0.mk (blk_fresh (by exact bl B_G) hge)
       have GE_R := Aside0.mk (Nat.le_trans ((by exact ul HU) : Upd S w _).size hge)
       replace B_G := Aside0.mk (hu.blk (by exact bl B_G) (fun h => h))
       replace R_C := Aside0.mk (row_upd (by exact rl R_C) hu (fun k hk h => h.elim))
       replace HU := Aside0.mk (((by exact ul HU) : Upd S w _).trans hu (fun _ h => h.elim))
       clear hu
       have B_R := Aside0.mk hbox; clear hbox hge
       have hc_G_0 := co B_G 0 (.slice A0 came.length c0) rfl; have hc_G_1 := co B_G 1 (.int .i64 over) rfl; have hc_R_0 := co B_R 0 (.int .i64 0) rfl; have hc_R_1 := co B_R 1 (.int .i64 0) rfl; have hc_R_2 := co B_R 2 (.bool false) rfl; have hc_R_3 := co B_R 3 (.int .i64 0) rfl; have hf_0 : w1.frozen? ⟨g_R, 0, none⟩ = false := blk_frozen B_R.out 0; have hf_1 : w1.frozen? ⟨g_R, 1, none⟩ = false := blk_frozen B_R.out 1; have hf_2 : w1.frozen? ⟨g_R, 2, none⟩ = false := blk_frozen B_R.out 2; have hf_3 : w1.frozen? ⟨g_R, 3, none⟩ = false := blk_frozen B_R.out 3))
  have hne1 : g ≠ g_R := NE_G_R.out
  have hne2 : g_R ≠ g := Ne.symm hne1
  go_region
  go_wp2
  have z_R := (blk_put (blk_put (blk_put (blk_put B_R.out 0 (.int .i64 0) rfl) 1 (.int .i64 0) rfl) 2 (.bool false) rfl) 3 (.int .i64 0) rfl)
  have z_HU := (Upd.setCell (j := 3) (Upd.setCell (j := 2) (Upd.setCell (j := 1) (Upd.setCell (j := 0) HU.out (.inr GE_R.out) (.int .i64 0)) (.inr GE_R.out) (.int .i64 0)) (.inr GE_R.out) (.bool false)) (.inr GE_R.out) (.int .i64 0))
  have z_G := (blk_far (p := ⟨g_R, 3, none⟩) (blk_far (p := ⟨g_R, 2, none⟩) (blk_far (p := ⟨g_R, 1, none⟩) (blk_far (p := ⟨g_R, 0, none⟩) B_G.out NE_G_R.out (.int .i64 0)) NE_G_R.out (.int .i64 0)) NE_G_R.out (.bool false)) NE_G_R.out (.int .i64 0))
  have z_C := (row_setT (row_setT (row_setT (row_setT R_C.out (⟨_, B_R.out⟩ : BlkT w1 g_R 34) (by decide) 0 (.int .i64 0)) (BlkT.set (⟨_, B_R.out⟩ : BlkT w1 g_R 34) 0 (.int .i64 0)) (by decide) 1 (.int .i64 0)) (BlkT.set (BlkT.set (⟨_, B_R.out⟩ : BlkT w1 g_R 34) 0 (.int .i64 0)) 1 (.int .i64 0)) (by decide) 2 (.bool false)) (BlkT.set (BlkT.set (BlkT.set (⟨_, B_R.out⟩ : BlkT w1 g_R 34) 0 (.int .i64 0)) 1 (.int .i64 0)) 2 (.bool false)) (by decide) 3 (.int .i64 0))
  refine bodyPost_ret (results_ctt rfl _ _ g_R 34 #[.int .i64 0, .int .i64 0, .bool false, .int .i64 0] (0, 0) _ rfl z_R Try.underlying34 rfl (by kernel_rfl)) rfl ?_
  exact ⟨rfl, ⟨.inl IN_G.out, _, (z_G : _), Kd.R_drew z_C⟩, Upd.drew z_HU⟩

set_option maxHeartbeats 4000000 in
set_option maxRecDepth 100000 in
theorem reader_ok (k : Nat) (g : Nat) (came came2 : List Int) (b t1 t2 : Int) (t3 : Bool) (t4 t5 t6 : Int) (S : Nat → Prop) (w : World) (hR : Rd w S g came 0) (hl : came.length ≤ 100000) (hx : came ++ [b] = came2) (h : head_Get.f k (strOfNums came2) 0 = some (t1, t2, t3, t4, t5, 0)) :
    Calls Try.prog 32 #[.pointer (some ⟨g, 0, none⟩), .int .u8 b] w fun e w' => e = .returned (.tuple #[.agg #[.int .i64 t1, .int .i64 t2, .bool t3, .int .i64 t4], .bool true, .int .i64 0]) ∧ Rd w' (New w S) g [] 0 ∧ Upd S w w' := by
  obtain ⟨hg, v, hb0, hr0⟩ := hR
  obtain ⟨A0, c0, rfl⟩ := Kd.R_slice hr0
  have HU := Aside0.mk (Upd.refl S w)
  have IN_G := Aside0.mk hg
  have B_G := Aside0.mk hb0
  have R_C := Aside0.mk (row_mono hr0 (fun k h => (.inl h : New w S k)))
  have hu_ := Try.underlying34
  clear hg hb0 hr0
  have HG := Aside0.mk h
  have HX := Aside0.mk hx
  have HL := Aside0.mk hl
  clear h hx hl
  have hcE : ∀ W : World, True := fun _ => trivial
  clear hcE
  have hc_G_1 := co B_G 1 (.int .i64 0) rfl
  clear hc_G_1
  go_enter Try.func32, Try.ntmps32
  go_wp2_with (first
    | ((with_reducible refine gate_dst (N := 4) rfl ?_)
       refine boxnew ?hg (N := 4) ?hd (cs := #[.int .i64 0, .int .i64 0, .bool false, .int .i64 0]) (t := 34) ?hr ?_; (case hd => rfl); (case hg => rfl); (case hr => first | (go_simp; done) | (go_simp; rfl))
       intro g_R hge w1 hbox hu
       have NE_G_R := Aside0.mk (blk_fresh (by exact bl B_G) hge)
       have GE_R := Aside0.mk (Nat.le_trans ((by exact ul HU) : Upd S w _).size hge)
       replace B_G := Aside0.mk (hu.blk (by exact bl B_G) (fun h => h))
       replace R_C := Aside0.mk (row_upd (by exact rl R_C) hu (fun k hk h => h.elim))
       replace HU := Aside0.mk (((by exact ul HU) : Upd S w _).trans hu (fun _ h => h.elim))
       clear hu
       have B_R := Aside0.mk hbox; clear hbox hge
       have hc_G_0 := co B_G 0 (.slice A0 came.length c0) rfl; have hc_G_1 := co B_G 1 (.int .i64 0) rfl; have hc_R_0 := co B_R 0 (.int .i64 0) rfl; have hc_R_1 := co B_R 1 (.int .i64 0) rfl; have hc_R_2 := co B_R 2 (.bool false) rfl; have hc_R_3 := co B_R 3 (.int .i64 0) rfl)
    | ((with_reducible refine gate_builtin (b := .append) (xs := #[.tmp 24, .tmp 26]) rfl ?_); at_builtin
       refine row_append (Kd.int .u8) (S := (New w S)) rfl (.tmp 24) (.tmp 26) 41 5 (.int .u8 0) 1 rfl Try.underlying41 infoU8 rfl (by decide) (by omega) (.slice A0 came.length c0) (came) (b) [.int .u8 b] rfl rfl ?aP ?aO ?aL came2 HX.out ?_
       (case aP => exact rfl); (case aO => exact (by exact rl R_C)); (case aL => (have := HL.out; omega))
       intro v2 w2 ho hu
       have ho2 := row_mono ho (New.later ((by exact ul HU) : Upd S w _).size)
       replace B_G := Aside0.mk (hu.blk (by exact bl B_G) (Kd.R_ne R_C.out (by exact bl B_G) (by decide)))
       replace B_R := Aside0.mk (hu.blk (by exact bl B_R) (Kd.R_ne R_C.out (by exact bl B_R) (by decide)))
       replace HU := Aside0.mk (((by exact ul HU) : Upd S w _).trans hu (fun k hk => row_at R_C.out hk))
       clear hu
       obtain ⟨A_C2, c_C2, rfl⟩ := Kd.R_slice ho2
       clear R_C ho; have R_C := Aside0.mk ho2; clear ho2
       (try clear hc_G_0 hc_G_1 hc_R_0 hc_R_1 hc_R_2 hc_R_3)
       have hc_G_0 := co B_G 0 (.slice A0 came.length c0) rfl; have hc_G_1 := co B_G 1 (.int .i64 0) rfl; have hc_R_0 := co B_R 0 (.int .i64 0) rfl; have hc_R_1 := co B_R 1 (.int .i64 0) rfl; have hc_R_2 := co B_R 2 (.bool false) rfl; have hc_R_3 := co B_R 3 (.int .i64 0) rfl)
    | ((with_reducible refine gate_store (t := 41) (p := 29) (v := .tmp 27) rfl ?_)
       refine cellput rfl 41 (.tmp 29) (.tmp 27) rfl rfl g 0 (.slice A_C2 came2.length c_C2) rfl rfl 72 #[.slice A0 came.length c0, .int .i64 0] #[.slice A_C2 came2.length c_C2, .int .i64 0] (by exact bl B_G) (by kernel_rfl) (by simp) rfl rfl ?_
       intro w3 hbox hu
       replace B_R := Aside0.mk (hu.blk (by exact bl B_R) (Ne.symm NE_G_R.out))
       replace R_C := Aside0.mk (row_updT (by exact rl R_C) (by exact bl B_G) (by decide) hu)
       replace HU := Aside0.mk (((by exact ul HU) : Upd S w _).trans hu (fun k hk => .inl (by rw [hk]; exact IN_G.out)))
       clear hu
       clear B_G; have B_G := Aside0.mk hbox; clear hbox
       (try clear hc_G_0 hc_G_1 hc_R_0 hc_R_1 hc_R_2 hc_R_3)
       have hc_G_0 := co B_G 0 (.slice A_C2 came2.length c_C2) rfl; have hc_G_1 := co B_G 1 (.int .i64 0) rfl; have hc_R_0 := co B_R 0 (.int .i64 0) rfl; have hc_R_1 := co B_R 1 (.int .i64 0) rfl; have hc_R_2 := co B_R 2 (.bool false) rfl; have hc_R_3 := co B_R 3 (.int .i64 0) rfl
       have hcv := own_string (P := Try.prog) Try.underlying41 Try.underlying5 Try.underlying9 (Kd.own_of_R R_C.out))
    | (go_at_call 40
       (with_reducible refine (head_Get.calls k (strOfNums came2) 0 t1 t2 t3 t4 t5 0 _ HG.out).mono ?_)
       rintro e w4 ⟨rfl, hb⟩
       have hu := (Upd.of_below hb : Upd None0 _ _)
       replace B_G := Aside0.mk (hu.blk (by exact bl B_G) (fun h => h))
       replace B_R := Aside0.mk (hu.blk (by exact bl B_R) (fun h => h))
       replace R_C := Aside0.mk (row_upd (by exact rl R_C) hu (fun k hk h => h.elim))
       replace HU := Aside0.mk (((by exact ul HU) : Upd S w _).trans hu (fun _ h => h.elim))
       clear hu
       (try clear hc_G_0 hc_G_1 hc_R_0 hc_R_1 hc_R_2 hc_R_3)
       have hc_G_0 := co B_G 0 (.slice A_C2 came2.length c_C2) rfl; have hc_G_1 := co B_G 1 (.int .i64 0) rfl; have hc_R_0 := co B_R 0 (.int .i64 0) rfl; have hc_R_1 := co B_R 1 (.int .i64 0) rfl; have hc_R_2 := co B_R 2 (.bool false) rfl; have hc_R_3 := co B_R 3 (.int .i64 0) rfl)
    | ((with_reducible refine gate_dst (N := 7) rfl ?_)
       refine boxnew ?hg (N := 7) ?hd (cs := #[.int .i64 0, .int .i64 0, .bool false, .int .i64 0]) (t := 34) ?hr ?_; (case hd => rfl); (case hg => rfl); (case hr => first | (go_simp; done) | (go_simp; rfl))
       intro g_H hge w5 hbox hu
       have NE_G_H := Aside0.mk (blk_fresh (by exact bl B_G) hge)
       have NE_H_R := Aside0.mk (Ne.symm (blk_fresh (by exact bl B_R) hge))
       have GE_H := Aside0.mk (Nat.le_trans ((by exact ul HU) : Upd S w _).size hge)
       replace B_G := Aside0.mk (hu.blk (by exact bl B_G) (fun h => h))
       replace B_R := Aside0.mk (hu.blk (by exact bl B_R) (fun h => h))
       replace R_C := Aside0.mk (row_upd (by exact rl R_C) hu (fun k hk h => h.elim))
       replace HU := Aside0.mk (((by exact ul HU) : Upd S w _).trans hu (fun _ h => h.elim))
       clear hu
       have B_H := Aside0.mk hbox; clear hbox hge
       (try clear hc_G_0 hc_G_1 hc_R_0 hc_R_1 hc_R_2 hc_R_3)
       have hc_G_0 := co B_G 0 (.slice A_C2 came2.length c_C2) rfl; have hc_G_1 := co B_G 1 (.int .i64 0) rfl; have hc_R_0 := co B_R 0 (.int .i64 0) rfl; have hc_R_1 := co B_R 1 (.int .i64 0) rfl; have hc_R_2 := co B_R 2 (.bool false) rfl; have hc_R_3 := co B_R 3 (.int .i64 0) rfl; have hc_H_0 := co B_H 0 (.int .i64 0) rfl; have hc_H_1 := co B_H 1 (.int .i64 0) rfl; have hc_H_2 := co B_H 2 (.bool false) rfl; have hc_H_3 := co B_H 3 (.int .i64 0) rfl)
    | ((with_reducible refine gate_store (t := 34) (p := 7) (v := .tmp 37) rfl ?_)
       refine rowput rfl 34 (.tmp 7) (.tmp 37) rfl rfl g_H #[.int .i64 t1, .int .i64 t2, .bool t3, .int .i64 t4] rfl rfl 34 #[.int .i64 0, .int .i64 0, .bool false, .int .i64 0] (by exact bl B_H) (by kernel_rfl) rfl (by simp [Value.oneCell']) ?_
       intro w6 hbox hu
       replace B_G := Aside0.mk (hu.blk (by exact bl B_G) NE_G_H.out)
       replace B_R := Aside0.mk (hu.blk (by exact bl B_R) (Ne.symm NE_H_R.out))
       replace R_C := Aside0.mk (row_updT (by exact rl R_C) (by exact bl B_H) (by decide) hu)
       replace HU := Aside0.mk (((by exact ul HU) : Upd S w _).trans hu (fun k hk => .inr (by rw [hk]; exact GE_H.out)))
       clear hu
       clear B_H; have B_H := Aside0.mk hbox; clear hbox
       (try clear hc_G_0 hc_G_1 hc_R_0 hc_R_1 hc_R_2 hc_R_3 hc_H_0 hc_H_1 hc_H_2 hc_H_3)
       have hc_G_0 := co B_G 0 (.slice A_C2 came2.length c_C2) rfl; have hc_G_1 := co B_G 1 (.int .i64 0) rfl; have hc_R_0 := co B_R 0 (.int .i64 0) rfl; have hc_R_1 := co B_R 1 (.int .i64 0) rfl; have hc_R_2 := co B_R 2 (.bool false) rfl; have hc_R_3 := co B_R 3 (.int .i64 0) rfl; have hc_H_0 := co B_H 0 (.int .i64 t1) rfl; have hc_H_1 := co B_H 1 (.int .i64 t2) rfl; have hc_H_2 := co B_H 2 (.bool t3) rfl; have hc_H_3 := co B_H 3 (.int .i64 t4) rfl)
    | ((with_reducible refine gate_store (t := 41) (p := 50) (v := .tmp 48) rfl ?_)
       refine cellput rfl 41 (.tmp 50) (.tmp 48) rfl rfl g 0 (.slice A_C2 0 c_C2) rfl rfl 72 #[.slice A_C2 came2.length c_C2, .int .i64 0] #[.slice A_C2 0 c_C2, .int .i64 0] (by exact bl B_G) (by kernel_rfl) (by simp) rfl rfl ?_
       intro w7 hbox hu
       replace B_R := Aside0.mk (hu.blk (by exact bl B_R) (Ne.symm NE_G_R.out))
       replace B_H := Aside0.mk (hu.blk (by exact bl B_H) (Ne.symm NE_G_H.out))
       replace R_C := Aside0.mk (row_updT (by exact rl R_C) (by exact bl B_G) (by decide) hu)
       replace HU := Aside0.mk (((by exact ul HU) : Upd S w _).trans hu (fun k hk => .inl (by rw [hk]; exact IN_G.out)))
       clear hu
       clear B_G; have B_G := Aside0.mk hbox; clear hbox
       (try clear hc_G_0 hc_G_1 hc_R_0 hc_R_1 hc_R_2 hc_R_3 hc_H_0 hc_H_1 hc_H_2 hc_H_3)
       have hc_G_0 := co B_G 0 (.slice A_C2 0 c_C2) rfl; have hc_G_1 := co B_G 1 (.int .i64 0) rfl; have hc_R_0 := co B_R 0 (.int .i64 0) rfl; have hc_R_1 := co B_R 1 (.int .i64 0) rfl; have hc_R_2 := co B_R 2 (.bool false) rfl; have hc_R_3 := co B_R 3 (.int .i64 0) rfl; have hc_H_0 := co B_H 0 (.int .i64 t1) rfl; have hc_H_1 := co B_H 1 (.int .i64 t2) rfl; have hc_H_2 := co B_H 2 (.bool t3) rfl; have hc_H_3 := co B_H 3 (.int .i64 t4) rfl)
    | ((with_reducible refine gate_store (t := 34) (p := 4) (v := .tmp 51) rfl ?_)
       refine rowput rfl 34 (.tmp 4) (.tmp 51) rfl rfl g_R #[.int .i64 t1, .int .i64 t2, .bool t3, .int .i64 t4] rfl rfl 34 #[.int .i64 0, .int .i64 0, .bool false, .int .i64 0] (by exact bl B_R) (by kernel_rfl) rfl (by simp [Value.oneCell']) ?_
       intro w8 hbox hu
       replace B_G := Aside0.mk (hu.blk (by exact bl B_G) NE_G_R.out)
       replace B_H := Aside0.mk (hu.blk (by exact bl B_H) NE_H_R.out)
       replace R_C := Aside0.mk (row_updT (by exact rl R_C) (by exact bl B_R) (by decide) hu)
       replace HU := Aside0.mk (((by exact ul HU) : Upd S w _).trans hu (fun k hk => .inr (by rw [hk]; exact GE_R.out)))
       clear hu
       clear B_R; have B_R := Aside0.mk hbox; clear hbox
       (try clear hc_G_0 hc_G_1 hc_R_0 hc_R_1 hc_R_2 hc_R_3 hc_H_0 hc_H_1 hc_H_2 hc_H_3)
       have hc_G_0 := co B_G 0 (.slice A_C2 0 c_C2) rfl; have hc_G_1 := co B_G 1 (.int .i64 0) rfl; have hc_R_0 := co B_R 0 (.int .i64 t1) rfl; have hc_R_1 := co B_R 1 (.int .i64 t2) rfl; have hc_R_2 := co B_R 2 (.bool t3) rfl; have hc_R_3 := co B_R 3 (.int .i64 t4) rfl; have hc_H_0 := co B_H 0 (.int .i64 t1) rfl; have hc_H_1 := co B_H 1 (.int .i64 t2) rfl; have hc_H_2 := co B_H 2 (.bool t3) rfl; have hc_H_3 := co B_H 3 (.int .i64 t4) rfl))
  refine bodyPost_ret (results_ctt rfl _ _ g_R 34 #[.int .i64 t1, .int .i64 t2, .bool t3, .int .i64 t4] (0, 0) _ rfl (by exact bl B_R) Try.underlying34 rfl (by kernel_rfl)) rfl ?_
  exact ⟨rfl, ⟨.inl IN_G.out, _, (by exact bl B_G), Kd.R_take (m := 0) R_C.out (Nat.zero_le _)⟩, (by exact ul HU)⟩

set_option maxHeartbeats 4000000 in
set_option maxRecDepth 100000 in
theorem reader_cut (k : Nat) (g : Nat) (came came2 : List Int) (b t1 t2 : Int) (t3 : Bool) (t4 t5 t6 : Int) (S : Nat → Prop) (w : World) (hR : Rd w S g came 0) (hl : came.length ≤ 100000) (hx : came ++ [b] = came2) (h : head_Get.f k (strOfNums came2) 0 = some (t1, t2, t3, t4, t5, 2)) :
    Calls Try.prog 32 #[.pointer (some ⟨g, 0, none⟩), .int .u8 b] w fun e w' => e = .returned (.tuple #[.agg #[.int .i64 0, .int .i64 0, .bool false, .int .i64 0], .bool false, .int .i64 0]) ∧ Rd w' (New w S) g came2 0 ∧ Upd S w w' := by
  obtain ⟨hg, v, hb0, hr0⟩ := hR
  obtain ⟨A0, c0, rfl⟩ := Kd.R_slice hr0
  have HU := Aside0.mk (Upd.refl S w)
  have IN_G := Aside0.mk hg
  have B_G := Aside0.mk hb0
  have R_C := Aside0.mk (row_mono hr0 (fun k h => (.inl h : New w S k)))
  have hu_ := Try.underlying34
  clear hg hb0 hr0
  have HG := Aside0.mk h
  have HX := Aside0.mk hx
  have HL := Aside0.mk hl
  clear h hx hl
  have hcE : ∀ W : World, True := fun _ => trivial
  clear hcE
  have hc_G_1 := co B_G 1 (.int .i64 0) rfl
  clear hc_G_1
  go_enter Try.func32, Try.ntmps32
  go_wp2_with (first
    | ((with_reducible refine gate_dst (N := 4) rfl ?_)
       refine boxnew ?hg (N := 4) ?hd (cs := #[.int .i64 0, .int .i64 0, .bool false, .int .i64 0]) (t := 34) ?hr ?_; (case hd => rfl); (case hg => rfl); (case hr => first | (go_simp; done) | (go_simp; rfl))
       intro g_R hge w1 hbox hu
       have NE_G_R := Aside0.mk (blk_fresh (by exact bl B_G) hge)
       have GE_R := Aside0.mk (Nat.le_trans ((by exact ul HU) : Upd S w _).size hge)
       replace B_G := Aside0.mk (hu.blk (by exact bl B_G) (fun h => h))
       replace R_C := Aside0.mk (row_upd (by exact rl R_C) hu (fun k hk h => h.elim))
       replace HU := Aside0.mk (((by exact ul HU) : Upd S w _).trans hu (fun _ h => h.elim))
       clear hu
       have B_R := Aside0.mk hbox; clear hbox hge
       have hc_G_0 := co B_G 0 (.slice A0 came.length c0) rfl; have hc_G_1 := co B_G 1 (.int .i64 0) rfl; have hc_R_0 := co B_R 0 (.int .i64 0) rfl; have hc_R_1 := co B_R 1 (.int .i64 0) rfl; have hc_R_2 := co B_R 2 (.bool false) rfl; have hc_R_3 := co B_R 3 (.int .i64 0) rfl)
    | ((with_reducible refine gate_builtin (b := .append) (xs := #[.tmp 24, .tmp 26]) rfl ?_); at_builtin
       refine row_append (Kd.int .u8) (S := (New w S)) rfl (.tmp 24) (.tmp 26) 41 5 (.int .u8 0) 1 rfl Try.underlying41 infoU8 rfl (by decide) (by omega) (.slice A0 came.length c0) (came) (b) [.int .u8 b] rfl rfl ?aP ?aO ?aL came2 HX.out ?_
       (case aP => exact rfl); (case aO => exact (by exact rl R_C)); (case aL => (have := HL.out; omega))
       intro v2 w2 ho hu
       have ho2 := row_mono ho (New.later ((by exact ul HU) : Upd S w _).size)
       replace B_G := Aside0.mk (hu.blk (by exact bl B_G) (Kd.R_ne R_C.out (by exact bl B_G) (by decide)))
       replace B_R := Aside0.mk (hu.blk (by exact bl B_R) (Kd.R_ne R_C.out (by exact bl B_R) (by decide)))
       replace HU := Aside0.mk (((by exact ul HU) : Upd S w _).trans hu (fun k hk => row_at R_C.out hk))
       clear hu
       obtain ⟨A_C2, c_C2, rfl⟩ := Kd.R_slice ho2
       clear R_C ho; have R_C := Aside0.mk ho2; clear ho2
       (try clear hc_G_0 hc_G_1 hc_R_0 hc_R_1 hc_R_2 hc_R_3)
       have hc_G_0 := co B_G 0 (.slice A0 came.length c0) rfl; have hc_G_1 := co B_G 1 (.int .i64 0) rfl; have hc_R_0 := co B_R 0 (.int .i64 0) rfl; have hc_R_1 := co B_R 1 (.int .i64 0) rfl; have hc_R_2 := co B_R 2 (.bool false) rfl; have hc_R_3 := co B_R 3 (.int .i64 0) rfl)
    | ((with_reducible refine gate_store (t := 41) (p := 29) (v := .tmp 27) rfl ?_)
       refine cellput rfl 41 (.tmp 29) (.tmp 27) rfl rfl g 0 (.slice A_C2 came2.length c_C2) rfl rfl 72 #[.slice A0 came.length c0, .int .i64 0] #[.slice A_C2 came2.length c_C2, .int .i64 0] (by exact bl B_G) (by kernel_rfl) (by simp) rfl rfl ?_
       intro w3 hbox hu
       replace B_R := Aside0.mk (hu.blk (by exact bl B_R) (Ne.symm NE_G_R.out))
       replace R_C := Aside0.mk (row_updT (by exact rl R_C) (by exact bl B_G) (by decide) hu)
       replace HU := Aside0.mk (((by exact ul HU) : Upd S w _).trans hu (fun k hk => .inl (by rw [hk]; exact IN_G.out)))
       clear hu
       clear B_G; have B_G := Aside0.mk hbox; clear hbox
       (try clear hc_G_0 hc_G_1 hc_R_0 hc_R_1 hc_R_2 hc_R_3)
       have hc_G_0 := co B_G 0 (.slice A_C2 came2.length c_C2) rfl; have hc_G_1 := co B_G 1 (.int .i64 0) rfl; have hc_R_0 := co B_R 0 (.int .i64 0) rfl; have hc_R_1 := co B_R 1 (.int .i64 0) rfl; have hc_R_2 := co B_R 2 (.bool false) rfl; have hc_R_3 := co B_R 3 (.int .i64 0) rfl
       have hcv := own_string (P := Try.prog) Try.underlying41 Try.underlying5 Try.underlying9 (Kd.own_of_R R_C.out))
    | (go_at_call 40
       (with_reducible refine (head_Get.calls k (strOfNums came2) 0 t1 t2 t3 t4 t5 2 _ HG.out).mono ?_)
       rintro e w4 ⟨rfl, hb⟩
       have hu := (Upd.of_below hb : Upd None0 _ _)
       replace B_G := Aside0.mk (hu.blk (by exact bl B_G) (fun h => h))
       replace B_R := Aside0.mk (hu.blk (by exact bl B_R) (fun h => h))
       replace R_C := Aside0.mk (row_upd (by exact rl R_C) hu (fun k hk h => h.elim))
       replace HU := Aside0.mk (((by exact ul HU) : Upd S w _).trans hu (fun _ h => h.elim))
       clear hu
       (try clear hc_G_0 hc_G_1 hc_R_0 hc_R_1 hc_R_2 hc_R_3)
       have hc_G_0 := co B_G 0 (.slice A_C2 came2.length c_C2) rfl; have hc_G_1 := co B_G 1 (.int .i64 0) rfl; have hc_R_0 := co B_R 0 (.int .i64 0) rfl; have hc_R_1 := co B_R 1 (.int .i64 0) rfl; have hc_R_2 := co B_R 2 (.bool false) rfl; have hc_R_3 := co B_R 3 (.int .i64 0) rfl)
    | ((with_reducible refine gate_dst (N := 7) rfl ?_)
       refine boxnew ?hg (N := 7) ?hd (cs := #[.int .i64 0, .int .i64 0, .bool false, .int .i64 0]) (t := 34) ?hr ?_; (case hd => rfl); (case hg => rfl); (case hr => first | (go_simp; done) | (go_simp; rfl))
       intro g_H hge w5 hbox hu
       have NE_G_H := Aside0.mk (blk_fresh (by exact bl B_G) hge)
       have NE_H_R := Aside0.mk (Ne.symm (blk_fresh (by exact bl B_R) hge))
       have GE_H := Aside0.mk (Nat.le_trans ((by exact ul HU) : Upd S w _).size hge)
       replace B_G := Aside0.mk (hu.blk (by exact bl B_G) (fun h => h))
       replace B_R := Aside0.mk (hu.blk (by exact bl B_R) (fun h => h))
       replace R_C := Aside0.mk (row_upd (by exact rl R_C) hu (fun k hk h => h.elim))
       replace HU := Aside0.mk (((by exact ul HU) : Upd S w _).trans hu (fun _ h => h.elim))
       clear hu
       have B_H := Aside0.mk hbox; clear hbox hge
       (try clear hc_G_0 hc_G_1 hc_R_0 hc_R_1 hc_R_2 hc_R_3)
       have hc_G_0 := co B_G 0 (.slice A_C2 came2.length c_C2) rfl; have hc_G_1 := co B_G 1 (.int .i64 0) rfl; have hc_R_0 := co B_R 0 (.int .i64 0) rfl; have hc_R_1 := co B_R 1 (.int .i64 0) rfl; have hc_R_2 := co B_R 2 (.bool false) rfl; have hc_R_3 := co B_R 3 (.int .i64 0) rfl; have hc_H_0 := co B_H 0 (.int .i64 0) rfl; have hc_H_1 := co B_H 1 (.int .i64 0) rfl; have hc_H_2 := co B_H 2 (.bool false) rfl; have hc_H_3 := co B_H 3 (.int .i64 0) rfl)
    | ((with_reducible refine gate_store (t := 34) (p := 7) (v := .tmp 37) rfl ?_)
       refine rowput rfl 34 (.tmp 7) (.tmp 37) rfl rfl g_H #[.int .i64 t1, .int .i64 t2, .bool t3, .int .i64 t4] rfl rfl 34 #[.int .i64 0, .int .i64 0, .bool false, .int .i64 0] (by exact bl B_H) (by kernel_rfl) rfl (by simp [Value.oneCell']) ?_
       intro w6 hbox hu
       replace B_G := Aside0.mk (hu.blk (by exact bl B_G) NE_G_H.out)
       replace B_R := Aside0.mk (hu.blk (by exact bl B_R) (Ne.symm NE_H_R.out))
       replace R_C := Aside0.mk (row_updT (by exact rl R_C) (by exact bl B_H) (by decide) hu)
       replace HU := Aside0.mk (((by exact ul HU) : Upd S w _).trans hu (fun k hk => .inr (by rw [hk]; exact GE_H.out)))
       clear hu
       clear B_H; have B_H := Aside0.mk hbox; clear hbox
       (try clear hc_G_0 hc_G_1 hc_R_0 hc_R_1 hc_R_2 hc_R_3 hc_H_0 hc_H_1 hc_H_2 hc_H_3)
       have hc_G_0 := co B_G 0 (.slice A_C2 came2.length c_C2) rfl; have hc_G_1 := co B_G 1 (.int .i64 0) rfl; have hc_R_0 := co B_R 0 (.int .i64 0) rfl; have hc_R_1 := co B_R 1 (.int .i64 0) rfl; have hc_R_2 := co B_R 2 (.bool false) rfl; have hc_R_3 := co B_R 3 (.int .i64 0) rfl; have hc_H_0 := co B_H 0 (.int .i64 t1) rfl; have hc_H_1 := co B_H 1 (.int .i64 t2) rfl; have hc_H_2 := co B_H 2 (.bool t3) rfl; have hc_H_3 := co B_H 3 (.int .i64 t4) rfl)
    | ((with_reducible refine gate_store (t := 34) (p := 4) (v := .tmp 54) rfl ?_)
       refine rowput rfl 34 (.tmp 4) (.tmp 54) rfl rfl g_R #[.int .i64 0, .int .i64 0, .bool false, .int .i64 0] rfl rfl 34 #[.int .i64 0, .int .i64 0, .bool false, .int .i64 0] (by exact bl B_R) (by kernel_rfl) rfl (by simp [Value.oneCell']) ?_
       intro w7 hbox hu
       replace B_G := Aside0.mk (hu.blk (by exact bl B_G) NE_G_R.out)
       replace B_H := Aside0.mk (hu.blk (by exact bl B_H) NE_H_R.out)
       replace R_C := Aside0.mk (row_updT (by exact rl R_C) (by exact bl B_R) (by decide) hu)
       replace HU := Aside0.mk (((by exact ul HU) : Upd S w _).trans hu (fun k hk => .inr (by rw [hk]; exact GE_R.out)))
       clear hu
       clear B_R; have B_R := Aside0.mk hbox; clear hbox
       (try clear hc_G_0 hc_G_1 hc_R_0 hc_R_1 hc_R_2 hc_R_3 hc_H_0 hc_H_1 hc_H_2 hc_H_3)
       have hc_G_0 := co B_G 0 (.slice A_C2 came2.length c_C2) rfl; have hc_G_1 := co B_G 1 (.int .i64 0) rfl; have hc_R_0 := co B_R 0 (.int .i64 0) rfl; have hc_R_1 := co B_R 1 (.int .i64 0) rfl; have hc_R_2 := co B_R 2 (.bool false) rfl; have hc_R_3 := co B_R 3 (.int .i64 0) rfl; have hc_H_0 := co B_H 0 (.int .i64 t1) rfl; have hc_H_1 := co B_H 1 (.int .i64 t2) rfl; have hc_H_2 := co B_H 2 (.bool t3) rfl; have hc_H_3 := co B_H 3 (.int .i64 t4) rfl))
  refine bodyPost_ret (results_ctt rfl _ _ g_R 34 #[.int .i64 0, .int .i64 0, .bool false, .int .i64 0] (0, 0) _ rfl (by exact bl B_R) Try.underlying34 rfl (by kernel_rfl)) rfl ?_
  exact ⟨rfl, ⟨.inl IN_G.out, _, (by exact bl B_G), R_C.out⟩, (by exact ul HU)⟩

set_option maxHeartbeats 4000000 in
set_option maxRecDepth 100000 in
theorem reader_err (k : Nat) (g : Nat) (came came2 : List Int) (b t1 t2 : Int) (t3 : Bool) (t4 t5 t6 : Int) (S : Nat → Prop) (w : World) (hR : Rd w S g came 0) (hl : came.length ≤ 100000) (hx : came ++ [b] = came2) (h : head_Get.f k (strOfNums came2) 0 = some (t1, t2, t3, t4, t5, t6)) (h0 : t6 ≠ 0) (h2 : t6 ≠ 2) :
    Calls Try.prog 32 #[.pointer (some ⟨g, 0, none⟩), .int .u8 b] w fun e w' => e = .returned (.tuple #[.agg #[.int .i64 0, .int .i64 0, .bool false, .int .i64 0], .bool false, .int .i64 t6]) ∧ Rd w' (New w S) g came2 t6 ∧ Upd S w w' := by
  obtain ⟨hg, v, hb0, hr0⟩ := hR
  obtain ⟨A0, c0, rfl⟩ := Kd.R_slice hr0
  have HU := Aside0.mk (Upd.refl S w)
  have IN_G := Aside0.mk hg
  have B_G := Aside0.mk hb0
  have R_C := Aside0.mk (row_mono hr0 (fun k h => (.inl h : New w S k)))
  have hu_ := Try.underlying34
  clear hg hb0 hr0
  have HG := Aside0.mk h
  have HX := Aside0.mk hx
  have HL := Aside0.mk hl
  clear h hx hl
  have c1 : (t6 == 0) = false := beq_eq_false_iff_ne.2 h0
  have c2 : (t6 == 2) = false := beq_eq_false_iff_ne.2 h2
  clear h0 h2
  have hcE : ∀ W : World, True := fun _ => trivial
  clear hcE
  have hc_G_1 := co B_G 1 (.int .i64 0) rfl
  clear hc_G_1
  go_enter Try.func32, Try.ntmps32
  go_wp2_with (first
    | ((with_reducible refine gate_dst (N := 4) rfl ?_)
       refine boxnew ?hg (N := 4) ?hd (cs := #[.int .i64 0, .int .i64 0, .bool false, .int .i64 0]) (t := 34) ?hr ?_; (case hd => rfl); (case hg => rfl); (case hr => first | (go_simp; done) | (go_simp; rfl))
       intro g_R hge w1 hbox hu
       have NE_G_R := Aside0.mk (blk_fresh (by exact bl B_G) hge)
       have GE_R := Aside0.mk (Nat.le_trans ((by exact ul HU) : Upd S w _).size hge)
       replace B_G := Aside0.mk (hu.blk (by exact bl B_G) (fun h => h))
       replace R_C := Aside0.mk (row_upd (by exact rl R_C) hu (fun k hk h => h.elim))
       replace HU := Aside0.mk (((by exact ul HU) : Upd S w _).trans hu (fun _ h => h.elim))
       clear hu
       have B_R := Aside0.mk hbox; clear hbox hge
       have hc_G_0 := co B_G 0 (.slice A0 came.length c0) rfl; have hc_G_1 := co B_G 1 (.int .i64 0) rfl; have hc_R_0 := co B_R 0 (.int .i64 0) rfl; have hc_R_1 := co B_R 1 (.int .i64 0) rfl; have hc_R_2 := co B_R 2 (.bool false) rfl; have hc_R_3 := co B_R 3 (.int .i64 0) rfl)
    | ((with_reducible refine gate_builtin (b := .append) (xs := #[.tmp 24, .tmp 26]) rfl ?_); at_builtin
       refine row_append (Kd.int .u8) (S := (New w S)) rfl (.tmp 24) (.tmp 26) 41 5 (.int .u8 0) 1 rfl Try.underlying41 infoU8 rfl (by decide) (by omega) (.slice A0 came.length c0) (came) (b) [.int .u8 b] rfl rfl ?aP ?aO ?aL came2 HX.out ?_
       (case aP => exact rfl); (case aO => exact (by exact rl R_C)); (case aL => (have := HL.out; omega))
       intro v2 w2 ho hu
       have ho2 := row_mono ho (New.later ((by exact ul HU) : Upd S w _).size)
       replace B_G := Aside0.mk (hu.blk (by exact bl B_G) (Kd.R_ne R_C.out (by exact bl B_G) (by decide)))
       replace B_R := Aside0.mk (hu.blk (by exact bl B_R) (Kd.R_ne R_C.out (by exact bl B_R) (by decide)))
       replace HU := Aside0.mk (((by exact ul HU) : Upd S w _).trans hu (fun k hk => row_at R_C.out hk))
       clear hu
       obtain ⟨A_C2, c_C2, rfl⟩ := Kd.R_slice ho2
       clear R_C ho; have R_C := Aside0.mk ho2; clear ho2
       (try clear hc_G_0 hc_G_1 hc_R_0 hc_R_1 hc_R_2 hc_R_3)
       have hc_G_0 := co B_G 0 (.slice A0 came.length c0) rfl; have hc_G_1 := co B_G 1 (.int .i64 0) rfl; have hc_R_0 := co B_R 0 (.int .i64 0) rfl; have hc_R_1 := co B_R 1 (.int .i64 0) rfl; have hc_R_2 := co B_R 2 (.bool false) rfl; have hc_R_3 := co B_R 3 (.int .i64 0) rfl)
    | ((with_reducible refine gate_store (t := 41) (p := 29) (v := .tmp 27) rfl ?_)
       refine cellput rfl 41 (.tmp 29) (.tmp 27) rfl rfl g 0 (.slice A_C2 came2.length c_C2) rfl rfl 72 #[.slice A0 came.length c0, .int .i64 0] #[.slice A_C2 came2.length c_C2, .int .i64 0] (by exact bl B_G) (by kernel_rfl) (by simp) rfl rfl ?_
       intro w3 hbox hu
       replace B_R := Aside0.mk (hu.blk (by exact bl B_R) (Ne.symm NE_G_R.out))
       replace R_C := Aside0.mk (row_updT (by exact rl R_C) (by exact bl B_G) (by decide) hu)
       replace HU := Aside0.mk (((by exact ul HU) : Upd S w _).trans hu (fun k hk => .inl (by rw [hk]; exact IN_G.out)))
       clear hu
       clear B_G; have B_G := Aside0.mk hbox; clear hbox
       (try clear hc_G_0 hc_G_1 hc_R_0 hc_R_1 hc_R_2 hc_R_3)
       have hc_G_0 := co B_G 0 (.slice A_C2 came2.length c_C2) rfl; have hc_G_1 := co B_G 1 (.int .i64 0) rfl; have hc_R_0 := co B_R 0 (.int .i64 0) rfl; have hc_R_1 := co B_R 1 (.int .i64 0) rfl; have hc_R_2 := co B_R 2 (.bool false) rfl; have hc_R_3 := co B_R 3 (.int .i64 0) rfl
       have hcv := own_string (P := Try.prog) Try.underlying41 Try.underlying5 Try.underlying9 (Kd.own_of_R R_C.out))
    | (go_at_call 40
       (with_reducible refine (head_Get.calls k (strOfNums came2) 0 t1 t2 t3 t4 t5 t6 _ HG.out).mono ?_)
       rintro e w4 ⟨rfl, hb⟩
       have hu := (Upd.of_below hb : Upd None0 _ _)
       replace B_G := Aside0.mk (hu.blk (by exact bl B_G) (fun h => h))
       replace B_R := Aside0.mk (hu.blk (by exact bl B_R) (fun h => h))
       replace R_C := Aside0.mk (row_upd (by exact rl R_C) hu (fun k hk h => h.elim))
       replace HU := Aside0.mk (((by exact ul HU) : Upd S w _).trans hu (fun _ h => h.elim))
       clear hu
       (try clear hc_G_0 hc_G_1 hc_R_0 hc_R_1 hc_R_2 hc_R_3)
       have hc_G_0 := co B_G 0 (.slice A_C2 came2.length c_C2) rfl; have hc_G_1 := co B_G 1 (.int .i64 0) rfl; have hc_R_0 := co B_R 0 (.int .i64 0) rfl; have hc_R_1 := co B_R 1 (.int .i64 0) rfl; have hc_R_2 := co B_R 2 (.bool false) rfl; have hc_R_3 := co B_R 3 (.int .i64 0) rfl)
    | ((with_reducible refine gate_dst (N := 7) rfl ?_)
       refine boxnew ?hg (N := 7) ?hd (cs := #[.int .i64 0, .int .i64 0, .bool false, .int .i64 0]) (t := 34) ?hr ?_; (case hd => rfl); (case hg => rfl); (case hr => first | (go_simp; done) | (go_simp; rfl))
       intro g_H hge w5 hbox hu
       have NE_G_H := Aside0.mk (blk_fresh (by exact bl B_G) hge)
       have NE_H_R := Aside0.mk (Ne.symm (blk_fresh (by exact bl B_R) hge))
       have GE_H := Aside0.mk (Nat.le_trans ((by exact ul HU) : Upd S w _).size hge)
       replace B_G := Aside0.mk (hu.blk (by exact bl B_G) (fun h => h))
       replace B_R := Aside0.mk (hu.blk (by exact bl B_R) (fun h => h))
       replace R_C := Aside0.mk (row_upd (by exact rl R_C) hu (fun k hk h => h.elim))
       replace HU := Aside0.mk (((by exact ul HU) : Upd S w _).trans hu (fun _ h => h.elim))
       clear hu
       have B_H := Aside0.mk hbox; clear hbox hge
       (try clear hc_G_0 hc_G_1 hc_R_0 hc_R_1 hc_R_2 hc_R_3)
       have hc_G_0 := co B_G 0 (.slice A_C2 came2.length c_C2) rfl; have hc_G_1 := co B_G 1 (.int .i64 0) rfl; have hc_R_0 := co B_R 0 (.int .i64 0) rfl; have hc_R_1 := co B_R 1 (.int .i64 0) rfl; have hc_R_2 := co B_R 2 (.bool false) rfl; have hc_R_3 := co B_R 3 (.int .i64 0) rfl; have hc_H_0 := co B_H 0 (.int .i64 0) rfl; have hc_H_1 := co B_H 1 (.int .i64 0) rfl; have hc_H_2 := co B_H 2 (.bool false) rfl; have hc_H_3 := co B_H 3 (.int .i64 0) rfl)
    | ((with_reducible refine gate_store (t := 34) (p := 7) (v := .tmp 37) rfl ?_)
       refine rowput rfl 34 (.tmp 7) (.tmp 37) rfl rfl g_H #[.int .i64 t1, .int .i64 t2, .bool t3, .int .i64 t4] rfl rfl 34 #[.int .i64 0, .int .i64 0, .bool false, .int .i64 0] (by exact bl B_H) (by kernel_rfl) rfl (by simp [Value.oneCell']) ?_
       intro w6 hbox hu
       replace B_G := Aside0.mk (hu.blk (by exact bl B_G) NE_G_H.out)
       replace B_R := Aside0.mk (hu.blk (by exact bl B_R) (Ne.symm NE_H_R.out))
       replace R_C := Aside0.mk (row_updT (by exact rl R_C) (by exact bl B_H) (by decide) hu)
       replace HU := Aside0.mk (((by exact ul HU) : Upd S w _).trans hu (fun k hk => .inr (by rw [hk]; exact GE_H.out)))
       clear hu
       clear B_H; have B_H := Aside0.mk hbox; clear hbox
       (try clear hc_G_0 hc_G_1 hc_R_0 hc_R_1 hc_R_2 hc_R_3 hc_H_0 hc_H_1 hc_H_2 hc_H_3)
       have hc_G_0 := co B_G 0 (.slice A_C2 came2.length c_C2) rfl; have hc_G_1 := co B_G 1 (.int .i64 0) rfl; have hc_R_0 := co B_R 0 (.int .i64 0) rfl; have hc_R_1 := co B_R 1 (.int .i64 0) rfl; have hc_R_2 := co B_R 2 (.bool false) rfl; have hc_R_3 := co B_R 3 (.int .i64 0) rfl; have hc_H_0 := co B_H 0 (.int .i64 t1) rfl; have hc_H_1 := co B_H 1 (.int .i64 t2) rfl; have hc_H_2 := co B_H 2 (.bool t3) rfl; have hc_H_3 := co B_H 3 (.int .i64 t4) rfl)
    | ((with_reducible refine gate_store (t := 25) (p := 58) (v := .tmp 56) rfl ?_)
       refine cellput rfl 25 (.tmp 58) (.tmp 56) rfl rfl g 1 (.int .i64 t6) rfl rfl 72 #[.slice A_C2 came2.length c_C2, .int .i64 0] #[.slice A_C2 came2.length c_C2, .int .i64 t6] (by exact bl B_G) (by kernel_rfl) (by simp) rfl rfl ?_
       intro w7 hbox hu
       replace B_R := Aside0.mk (hu.blk (by exact bl B_R) (Ne.symm NE_G_R.out))
       replace B_H := Aside0.mk (hu.blk (by exact bl B_H) (Ne.symm NE_G_H.out))
       replace R_C := Aside0.mk (row_updT (by exact rl R_C) (by exact bl B_G) (by decide) hu)
       replace HU := Aside0.mk (((by exact ul HU) : Upd S w _).trans hu (fun k hk => .inl (by rw [hk]; exact IN_G.out)))
       clear hu
       clear B_G; have B_G := Aside0.mk hbox; clear hbox
       (try clear hc_G_0 hc_G_1 hc_R_0 hc_R_1 hc_R_2 hc_R_3 hc_H_0 hc_H_1 hc_H_2 hc_H_3)
       have hc_G_0 := co B_G 0 (.slice A_C2 came2.length c_C2) rfl; have hc_G_1 := co B_G 1 (.int .i64 t6) rfl; have hc_R_0 := co B_R 0 (.int .i64 0) rfl; have hc_R_1 := co B_R 1 (.int .i64 0) rfl; have hc_R_2 := co B_R 2 (.bool false) rfl; have hc_R_3 := co B_R 3 (.int .i64 0) rfl; have hc_H_0 := co B_H 0 (.int .i64 t1) rfl; have hc_H_1 := co B_H 1 (.int .i64 t2) rfl; have hc_H_2 := co B_H 2 (.bool t3) rfl; have hc_H_3 := co B_H 3 (.int .i64 t4) rfl)
    | ((with_reducible refine gate_store (t := 34) (p := 4) (v := .tmp 59) rfl ?_)
       refine rowput rfl 34 (.tmp 4) (.tmp 59) rfl rfl g_R #[.int .i64 0, .int .i64 0, .bool false, .int .i64 0] rfl rfl 34 #[.int .i64 0, .int .i64 0, .bool false, .int .i64 0] (by exact bl B_R) (by kernel_rfl) rfl (by simp [Value.oneCell']) ?_
       intro w8 hbox hu
       replace B_G := Aside0.mk (hu.blk (by exact bl B_G) NE_G_R.out)
       replace B_H := Aside0.mk (hu.blk (by exact bl B_H) NE_H_R.out)
       replace R_C := Aside0.mk (row_updT (by exact rl R_C) (by exact bl B_R) (by decide) hu)
       replace HU := Aside0.mk (((by exact ul HU) : Upd S w _).trans hu (fun k hk => .inr (by rw [hk]; exact GE_R.out)))
       clear hu
       clear B_R; have B_R := Aside0.mk hbox; clear hbox
       (try clear hc_G_0 hc_G_1 hc_R_0 hc_R_1 hc_R_2 hc_R_3 hc_H_0 hc_H_1 hc_H_2 hc_H_3)
       have hc_G_0 := co B_G 0 (.slice A_C2 came2.length c_C2) rfl; have hc_G_1 := co B_G 1 (.int .i64 t6) rfl; have hc_R_0 := co B_R 0 (.int .i64 0) rfl; have hc_R_1 := co B_R 1 (.int .i64 0) rfl; have hc_R_2 := co B_R 2 (.bool false) rfl; have hc_R_3 := co B_R 3 (.int .i64 0) rfl; have hc_H_0 := co B_H 0 (.int .i64 t1) rfl; have hc_H_1 := co B_H 1 (.int .i64 t2) rfl; have hc_H_2 := co B_H 2 (.bool t3) rfl; have hc_H_3 := co B_H 3 (.int .i64 t4) rfl))
  refine bodyPost_ret (results_ctt rfl _ _ g_R 34 #[.int .i64 0, .int .i64 0, .bool false, .int .i64 0] (0, 0) _ rfl (by exact bl B_R) Try.underlying34 rfl (by kernel_rfl)) rfl ?_
  exact ⟨rfl, ⟨.inl IN_G.out, _, (by exact bl B_G), R_C.out⟩, (by exact ul HU)⟩

theorem reader_push (k : Nat) (g : Nat) (came : List Int) (over b : Int) (t : Int × Int × Bool × Int × Int × Int) (S : Nat → Prop) (w : World) (hR : Rd w S g came over) (hl : came.length ≤ 100000) (h : over = 0 → head_Get.f k (strOfNums (came ++ [b])) 0 = some t) :
    Calls Try.prog 32 #[.pointer (some ⟨g, 0, none⟩), .int .u8 b] w fun e w' => e = .returned (.tuple #[.agg #[.int .i64 (rdp came over b t).1.1, .int .i64 (rdp came over b t).1.2.1, .bool (rdp came over b t).1.2.2.1, .int .i64 (rdp came over b t).1.2.2.2], .bool (rdp came over b t).2.1, .int .i64 (rdp came over b t).2.2.1]) ∧
      Rd w' (New w S) g (rdp came over b t).2.2.2.1 (rdp came over b t).2.2.2.2 ∧ Upd S w w' := by
  obtain ⟨t1, t2, t3, t4, t5, t6⟩ := t
  by_cases ho : over = 0
  · subst ho
    have h := h rfl
    by_cases h0 : t6 = 0
    · subst h0
      have e : rdp came 0 b (t1, t2, t3, t4, t5, 0) = ((t1, t2, t3, t4), true, 0, [], 0) := by simp [rdp]
      rw [e]
      exact reader_ok k g came _ b t1 t2 t3 t4 t5 0 S w hR hl rfl h
    · by_cases h2 : t6 = 2
      · subst h2
        have e : rdp came 0 b (t1, t2, t3, t4, t5, 2) = ((0, 0, false, 0), false, 0, came ++ [b], 0) := by simp [rdp]
        rw [e]
        exact reader_cut k g came _ b t1 t2 t3 t4 t5 0 S w hR hl rfl h
      · have e : rdp came 0 b (t1, t2, t3, t4, t5, t6) = ((0, 0, false, 0), false, t6, came ++ [b], t6) := by simp [rdp, h0, h2]
        rw [e]
        exact reader_err k g came _ b t1 t2 t3 t4 t5 t6 S w hR hl rfl h h0 h2
  · have e : rdp came over b (t1, t2, t3, t4, t5, t6) = ((0, 0, false, 0), false, over, came, over) := by simp [rdp, ho]
    rw [e]
    exact reader_over g came over b S w hR ho
set_option maxHeartbeats 4000000 in
set_option maxRecDepth 100000 in
theorem reader_new (w : World) : Calls Try.prog 27 #[] w fun e w' => ∃ g : Nat, e = .returned (.pointer (some ⟨g, 0, none⟩)) ∧ Rd w' (New w None0) g [] 0 ∧ Upd None0 w w' := by
  have HU := Aside0.mk (Upd.refl None0 w)
  have hu_ := Try.underlying72
  go_enter Try.func27, Try.ntmps27
  go_wp2_with (first
    | ((with_reducible refine gate_dst (N := 2) rfl ?_)
       refine boxnew ?hg (N := 2) ?hd (cs := #[.slice none 0 0, .int .i64 0]) (t := 72) ?hr ?_; (case hd => rfl); (case hg => rfl); (case hr => first | (go_simp; done) | (go_simp; rfl))
       intro g_G hge w1 hbox hu
       have GE_G := Aside0.mk (Nat.le_trans ((by exact ul HU) : Upd None0 w _).size hge)
       replace HU := Aside0.mk (((by exact ul HU) : Upd None0 w _).trans hu (fun _ h => h.elim))
       clear hu
       have B_G := Aside0.mk hbox; clear hbox hge
       have hc_G_0 := co B_G 0 (.slice none 0 0) rfl; have hc_G_1 := co B_G 1 (.int .i64 0) rfl))
  go_ret
  exact ⟨_, rfl, ⟨.inr GE_G.out, _, (by exact bl B_G), Kd.R_nil _ _ _ _ _⟩, (by exact ul HU)⟩
end Go.Proofs.Ytomaajagncjiiaa.PC
