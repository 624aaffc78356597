-- Written by a program of this session (print2, a turned print): not PRINTED BY print.sh
import Derived.Test.YtomaajagncjiiaaPCx0
import Derived.Test.YtomaajagncjiiaaPCx3
import Derived.Test.YtomaajagncjiiaaPCx4
namespace Go.Proofs.Ytomaajagncjiiaa.PC
open Go.RowKit Go.Proofs.YtomaajagncjiiaaW.PrintWords Go.Proofs.YtomaajagncjiiaaW.PrintLast Go.Proofs.YtomaajagncjiiaaW.PrintMore
attribute [local go_sem] max2_int min2_int max_two min_two max_three min_three max_four min_four   -- for this text's walks alone
set_option linter.unusedVariables false
set_option linter.unusedSimpArgs false


/-! ### head_Get: function 40 -/
open Go.Proofs.Ytomaajagncjiiaa.Own
/-! ### head_Get: walked with whole blocks -/
def head_Get.f (k : Nat) (a0 : ByteArray) (a1 : Int) : Option (Int × Int × Bool × Int × Int × Int) := (ident_Get.f k a0 a1).bind fun bt181 => (if bt181.2.2.2.2.2 = 0 then ((length_Get.f k a0 bt181.2.2.2.2.1).bind fun bt188 => (if bt188.2.2 = 0 then (some (bt181.1, bt181.2.1, bt181.2.2.1, bt188.1, bt188.2.1, 0)) else (some (0, 0, false, 0, bt188.2.1, bt188.2.2)))) else (some (0, 0, false, 0, bt181.2.2.2.2.1, bt181.2.2.2.2.2)))
theorem head_Get.mono : ∀ a0 a1 k, LeO (head_Get.f k a0 a1) (head_Get.f (k + 1) a0 a1) := by
 intro a0 a1 k
 unfold head_Get.f
 refine LeO.bind (ident_Get.mono _ _ _) (fun _ => ?_)
 refine LeO.ite ?_ (LeO.refl _)
 refine LeO.bind (length_Get.mono _ _ _) (fun _ => ?_)
 exact LeO.ite (LeO.refl _) (LeO.refl _)

set_option maxHeartbeats 4000000 in
set_option maxRecDepth 100000 in
theorem head_Get.ok (k : Nat) (a0 : ByteArray) (a1 t1 t2 : Int) (t3 : Bool) (t4 t5 t6 : Int) (t8 t9 t10 : Int) (h1 : ident_Get.f k a0 a1 = some (t1, t2, t3, t4, t5, t6)) (h0 : t6 = 0) (h2 : length_Get.f k a0 t5 = some (t8, t9, t10)) (h3 : t10 = 0) (w : World) :
 Calls Try.prog 40 #[.string a0, .int .i64 a1] w fun e w' => e = .returned (.tuple #[.agg #[.int .i64 t1, .int .i64 t2, .bool t3, .int .i64 t8], .int .i64 t9, .int .i64 0]) ∧ Below w.heap.size w w' := by
 have HU := Aside0.mk (Upd.refl None0 w)
 have A3 := Aside0.mk h1
 have hu_ := Try.underlying34
 have A5 := Aside0.mk h2
 subst h0 h3
 clear h1 h2
 go_enter Try.func40, Try.ntmps40
 go_wp2_with (first
  | ((with_reducible refine gate_dst (N := 4) rfl ?_)
     refine boxnew ?hg (N := 4) ?hd (cs := #[.int .i64 0, .int .i64 0, .bool false, .int .i64 0]) (t := 34) ?hr ?_; (case hd => rfl); (case hg => rfl); (case hr => first | (go_simp; done) | (go_simp; rfl))
     intro g_R hge w1 hbox hu
     have GE_R := Aside0.mk (Nat.le_trans ((by exact ul HU) : Upd None0 w _).size hge)
     replace HU := Aside0.mk (((by exact ul HU) : Upd None0 w _).trans hu (fun _ h => h.elim))
     clear hu
     have B_R := Aside0.mk hbox; clear hbox hge
     have hc_R_0 := co B_R 0 (.int .i64 0) rfl; have hc_R_1 := co B_R 1 (.int .i64 0) rfl; have hc_R_2 := co B_R 2 (.bool false) rfl; have hc_R_3 := co B_R 3 (.int .i64 0) rfl)
  | (go_at_call 44
     (with_reducible refine (ident_Get.calls k a0 a1 t1 t2 t3 t4 t5 0 _ A3.out).mono ?_)
     rintro e w2 ⟨rfl, hb⟩
     have hu := (Upd.of_below hb : Upd None0 _ _)
     replace B_R := Aside0.mk (hu.blk (by exact bl B_R) (fun h => h))
     replace HU := Aside0.mk (((by exact ul HU) : Upd None0 w _).trans hu (fun _ h => h.elim))
     clear hu
     (try clear hc_R_0 hc_R_1 hc_R_2 hc_R_3)
     have hc_R_0 := co B_R 0 (.int .i64 0) rfl; have hc_R_1 := co B_R 1 (.int .i64 0) rfl; have hc_R_2 := co B_R 2 (.bool false) rfl; have hc_R_3 := co B_R 3 (.int .i64 0) rfl)
  | ((with_reducible refine gate_dst (N := 7) rfl ?_)
     refine boxnew ?hg (N := 7) ?hd (cs := #[.int .i64 0, .int .i64 0, .bool false, .int .i64 0]) (t := 34) ?hr ?_; (case hd => rfl); (case hg => rfl); (case hr => first | (go_simp; done) | (go_simp; rfl))
     intro g_H hge w3 hbox hu
     have NE_H_R := Aside0.mk (Ne.symm (blk_fresh (by exact bl B_R) hge))
     have GE_H := Aside0.mk (Nat.le_trans ((by exact ul HU) : Upd None0 w _).size hge)
     replace B_R := Aside0.mk (hu.blk (by exact bl B_R) (fun h => h))
     replace HU := Aside0.mk (((by exact ul HU) : Upd None0 w _).trans hu (fun _ h => h.elim))
     clear hu
     have B_H := Aside0.mk hbox; clear hbox hge
     (try clear hc_R_0 hc_R_1 hc_R_2 hc_R_3)
     have hc_R_0 := co B_R 0 (.int .i64 0) rfl; have hc_R_1 := co B_R 1 (.int .i64 0) rfl; have hc_R_2 := co B_R 2 (.bool false) rfl; have hc_R_3 := co B_R 3 (.int .i64 0) rfl; have hc_H_0 := co B_H 0 (.int .i64 0) rfl; have hc_H_1 := co B_H 1 (.int .i64 0) rfl; have hc_H_2 := co B_H 2 (.bool false) rfl; have hc_H_3 := co B_H 3 (.int .i64 0) rfl)
  | ((with_reducible refine gate_store (t := 34) (p := 7) (v := .tmp 15) rfl ?_)
     refine rowput rfl 34 (.tmp 7) (.tmp 15) rfl rfl g_H #[.int .i64 t1, .int .i64 t2, .bool t3, .int .i64 t4] rfl rfl 34 #[.int .i64 0, .int .i64 0, .bool false, .int .i64 0] (by exact bl B_H) (by kernel_rfl) rfl (by simp [Value.oneCell']) ?_
     intro w4 hbox hu
     replace B_R := Aside0.mk (hu.blk (by exact bl B_R) (Ne.symm NE_H_R.out))
     replace HU := Aside0.mk (((by exact ul HU) : Upd None0 w _).trans hu (fun k hk => .inr (by rw [hk]; exact GE_H.out)))
     clear hu
     clear B_H; have B_H := Aside0.mk hbox; clear hbox
     (try clear hc_R_0 hc_R_1 hc_R_2 hc_R_3 hc_H_0 hc_H_1 hc_H_2 hc_H_3)
     have hc_R_0 := co B_R 0 (.int .i64 0) rfl; have hc_R_1 := co B_R 1 (.int .i64 0) rfl; have hc_R_2 := co B_R 2 (.bool false) rfl; have hc_R_3 := co B_R 3 (.int .i64 0) rfl; have hc_H_0 := co B_H 0 (.int .i64 t1) rfl; have hc_H_1 := co B_H 1 (.int .i64 t2) rfl; have hc_H_2 := co B_H 2 (.bool t3) rfl; have hc_H_3 := co B_H 3 (.int .i64 t4) rfl)
  | (go_at_call 45
     (with_reducible refine (length_Get.calls k a0 t5 t8 t9 0 _ A5.out).mono ?_)
     rintro e w5 ⟨rfl, hb⟩
     have hu := (Upd.of_below hb.below : Upd None0 _ _)
     replace B_R := Aside0.mk (hu.blk (by exact bl B_R) (fun h => h))
     replace B_H := Aside0.mk (hu.blk (by exact bl B_H) (fun h => h))
     replace HU := Aside0.mk (((by exact ul HU) : Upd None0 w _).trans hu (fun _ h => h.elim))
     clear hu
     (try clear hc_R_0 hc_R_1 hc_R_2 hc_R_3 hc_H_0 hc_H_1 hc_H_2 hc_H_3)
     have hc_R_0 := co B_R 0 (.int .i64 0) rfl; have hc_R_1 := co B_R 1 (.int .i64 0) rfl; have hc_R_2 := co B_R 2 (.bool false) rfl; have hc_R_3 := co B_R 3 (.int .i64 0) rfl; have hc_H_0 := co B_H 0 (.int .i64 t1) rfl; have hc_H_1 := co B_H 1 (.int .i64 t2) rfl; have hc_H_2 := co B_H 2 (.bool t3) rfl; have hc_H_3 := co B_H 3 (.int .i64 t4) rfl)
  | ((with_reducible refine gate_store (t := 3) (p := 36) (v := .tmp 35) rfl ?_)
     refine cellput rfl 3 (.tmp 36) (.tmp 35) rfl rfl g_H 3 (.int .i64 t8) rfl rfl 34 #[.int .i64 t1, .int .i64 t2, .bool t3, .int .i64 t4] #[.int .i64 t1, .int .i64 t2, .bool t3, .int .i64 t8] (by exact bl B_H) (by kernel_rfl) (by simp) rfl rfl ?_
     intro w6 hbox hu
     replace B_R := Aside0.mk (hu.blk (by exact bl B_R) (Ne.symm NE_H_R.out))
     replace HU := Aside0.mk (((by exact ul HU) : Upd None0 w _).trans hu (fun k hk => .inr (by rw [hk]; exact GE_H.out)))
     clear hu
     clear B_H; have B_H := Aside0.mk hbox; clear hbox
     (try clear hc_R_0 hc_R_1 hc_R_2 hc_R_3 hc_H_0 hc_H_1 hc_H_2 hc_H_3)
     have hc_R_0 := co B_R 0 (.int .i64 0) rfl; have hc_R_1 := co B_R 1 (.int .i64 0) rfl; have hc_R_2 := co B_R 2 (.bool false) rfl; have hc_R_3 := co B_R 3 (.int .i64 0) rfl; have hc_H_0 := co B_H 0 (.int .i64 t1) rfl; have hc_H_1 := co B_H 1 (.int .i64 t2) rfl; have hc_H_2 := co B_H 2 (.bool t3) rfl; have hc_H_3 := co B_H 3 (.int .i64 t8) rfl)
  | ((with_reducible refine gate_store (t := 34) (p := 4) (v := .tmp 37) rfl ?_)
     refine rowput rfl 34 (.tmp 4) (.tmp 37) rfl rfl g_R #[.int .i64 t1, .int .i64 t2, .bool t3, .int .i64 t8] rfl rfl 34 #[.int .i64 0, .int .i64 0, .bool false, .int .i64 0] (by exact bl B_R) (by kernel_rfl) rfl (by simp [Value.oneCell']) ?_
     intro w7 hbox hu
     replace B_H := Aside0.mk (hu.blk (by exact bl B_H) NE_H_R.out)
     replace HU := Aside0.mk (((by exact ul HU) : Upd None0 w _).trans hu (fun k hk => .inr (by rw [hk]; exact GE_R.out)))
     clear hu
     clear B_R; have B_R := Aside0.mk hbox; clear hbox
     (try clear hc_R_0 hc_R_1 hc_R_2 hc_R_3 hc_H_0 hc_H_1 hc_H_2 hc_H_3)
     have hc_R_0 := co B_R 0 (.int .i64 t1) rfl; have hc_R_1 := co B_R 1 (.int .i64 t2) rfl; have hc_R_2 := co B_R 2 (.bool t3) rfl; have hc_R_3 := co B_R 3 (.int .i64 t8) rfl; have hc_H_0 := co B_H 0 (.int .i64 t1) rfl; have hc_H_1 := co B_H 1 (.int .i64 t2) rfl; have hc_H_2 := co B_H 2 (.bool t3) rfl; have hc_H_3 := co B_H 3 (.int .i64 t8) rfl))
 refine bodyPost_ret (results_ctt rfl _ _ g_R 34 #[.int .i64 t1, .int .i64 t2, .bool t3, .int .i64 t8] (0, 0) _ rfl (by exact bl B_R) Try.underlying34 rfl (by kernel_rfl)) rfl ?_
 exact ⟨rfl, Upd.below0 (by exact ul HU)⟩
set_option maxHeartbeats 4000000 in
set_option maxRecDepth 100000 in
theorem head_Get.cut (k : Nat) (a0 : ByteArray) (a1 t1 t2 : Int) (t3 : Bool) (t4 t5 t6 : Int) (t8 t9 t10 : Int) (h1 : ident_Get.f k a0 a1 = some (t1, t2, t3, t4, t5, t6)) (h0 : t6 = 0) (h2 : length_Get.f k a0 t5 = some (t8, t9, t10)) (h3 : t10 ≠ 0) (w : World) :
 Calls Try.prog 40 #[.string a0, .int .i64 a1] w fun e w' => e = .returned (.tuple #[.agg #[.int .i64 0, .int .i64 0, .bool false, .int .i64 0], .int .i64 t9, .int .i64 t10]) ∧ Below w.heap.size w w' := by
 have HU := Aside0.mk (Upd.refl None0 w)
 have A3 := Aside0.mk h1
 have hu_ := Try.underlying34
 have A5 := Aside0.mk h2
 subst h0
 have c1 : (t10 != 0) = true := bne_iff_ne.2 h3
 clear h1 h2
 go_enter Try.func40, Try.ntmps40
 go_wp2_with (first
  | ((with_reducible refine gate_dst (N := 4) rfl ?_)
     refine boxnew ?hg (N := 4) ?hd (cs := #[.int .i64 0, .int .i64 0, .bool false, .int .i64 0]) (t := 34) ?hr ?_; (case hd => rfl); (case hg => rfl); (case hr => first | (go_simp; done) | (go_simp; rfl))
     intro g_R hge w1 hbox hu
     have GE_R := Aside0.mk (Nat.le_trans ((by exact ul HU) : Upd None0 w _).size hge)
     replace HU := Aside0.mk (((by exact ul HU) : Upd None0 w _).trans hu (fun _ h => h.elim))
     clear hu
     have B_R := Aside0.mk hbox; clear hbox hge
     have hc_R_0 := co B_R 0 (.int .i64 0) rfl; have hc_R_1 := co B_R 1 (.int .i64 0) rfl; have hc_R_2 := co B_R 2 (.bool false) rfl; have hc_R_3 := co B_R 3 (.int .i64 0) rfl)
  | (go_at_call 44
     (with_reducible refine (ident_Get.calls k a0 a1 t1 t2 t3 t4 t5 0 _ A3.out).mono ?_)
     rintro e w2 ⟨rfl, hb⟩
     have hu := (Upd.of_below hb : Upd None0 _ _)
     replace B_R := Aside0.mk (hu.blk (by exact bl B_R) (fun h => h))
     replace HU := Aside0.mk (((by exact ul HU) : Upd None0 w _).trans hu (fun _ h => h.elim))
     clear hu
     (try clear hc_R_0 hc_R_1 hc_R_2 hc_R_3)
     have hc_R_0 := co B_R 0 (.int .i64 0) rfl; have hc_R_1 := co B_R 1 (.int .i64 0) rfl; have hc_R_2 := co B_R 2 (.bool false) rfl; have hc_R_3 := co B_R 3 (.int .i64 0) rfl)
  | ((with_reducible refine gate_dst (N := 7) rfl ?_)
     refine boxnew ?hg (N := 7) ?hd (cs := #[.int .i64 0, .int .i64 0, .bool false, .int .i64 0]) (t := 34) ?hr ?_; (case hd => rfl); (case hg => rfl); (case hr => first | (go_simp; done) | (go_simp; rfl))
     intro g_H hge w3 hbox hu
     have NE_H_R := Aside0.mk (Ne.symm (blk_fresh (by exact bl B_R) hge))
     have GE_H := Aside0.mk (Nat.le_trans ((by exact ul HU) : Upd None0 w _).size hge)
     replace B_R := Aside0.mk (hu.blk (by exact bl B_R) (fun h => h))
     replace HU := Aside0.mk (((by exact ul HU) : Upd None0 w _).trans hu (fun _ h => h.elim))
     clear hu
     have B_H := Aside0.mk hbox; clear hbox hge
     (try clear hc_R_0 hc_R_1 hc_R_2 hc_R_3)
     have hc_R_0 := co B_R 0 (.int .i64 0) rfl; have hc_R_1 := co B_R 1 (.int .i64 0) rfl; have hc_R_2 := co B_R 2 (.bool false) rfl; have hc_R_3 := co B_R 3 (.int .i64 0) rfl; have hc_H_0 := co B_H 0 (.int .i64 0) rfl; have hc_H_1 := co B_H 1 (.int .i64 0) rfl; have hc_H_2 := co B_H 2 (.bool false) rfl; have hc_H_3 := co B_H 3 (.int .i64 0) rfl)
  | ((with_reducible refine gate_store (t := 34) (p := 7) (v := .tmp 15) rfl ?_)
     refine rowput rfl 34 (.tmp 7) (.tmp 15) rfl rfl g_H #[.int .i64 t1, .int .i64 t2, .bool t3, .int .i64 t4] rfl rfl 34 #[.int .i64 0, .int .i64 0, .bool false, .int .i64 0] (by exact bl B_H) (by kernel_rfl) rfl (by simp [Value.oneCell']) ?_
     intro w4 hbox hu
     replace B_R := Aside0.mk (hu.blk (by exact bl B_R) (Ne.symm NE_H_R.out))
     replace HU := Aside0.mk (((by exact ul HU) : Upd None0 w _).trans hu (fun k hk => .inr (by rw [hk]; exact GE_H.out)))
     clear hu
     clear B_H; have B_H := Aside0.mk hbox; clear hbox
     (try clear hc_R_0 hc_R_1 hc_R_2 hc_R_3 hc_H_0 hc_H_1 hc_H_2 hc_H_3)
     have hc_R_0 := co B_R 0 (.int .i64 0) rfl; have hc_R_1 := co B_R 1 (.int .i64 0) rfl; have hc_R_2 := co B_R 2 (.bool false) rfl; have hc_R_3 := co B_R 3 (.int .i64 0) rfl; have hc_H_0 := co B_H 0 (.int .i64 t1) rfl; have hc_H_1 := co B_H 1 (.int .i64 t2) rfl; have hc_H_2 := co B_H 2 (.bool t3) rfl; have hc_H_3 := co B_H 3 (.int .i64 t4) rfl)
  | (go_at_call 45
     (with_reducible refine (length_Get.calls k a0 t5 t8 t9 t10 _ A5.out).mono ?_)
     rintro e w5 ⟨rfl, hb⟩
     have hu := (Upd.of_below hb.below : Upd None0 _ _)
     replace B_R := Aside0.mk (hu.blk (by exact bl B_R) (fun h => h))
     replace B_H := Aside0.mk (hu.blk (by exact bl B_H) (fun h => h))
     replace HU := Aside0.mk (((by exact ul HU) : Upd None0 w _).trans hu (fun _ h => h.elim))
     clear hu
     (try clear hc_R_0 hc_R_1 hc_R_2 hc_R_3 hc_H_0 hc_H_1 hc_H_2 hc_H_3)
     have hc_R_0 := co B_R 0 (.int .i64 0) rfl; have hc_R_1 := co B_R 1 (.int .i64 0) rfl; have hc_R_2 := co B_R 2 (.bool false) rfl; have hc_R_3 := co B_R 3 (.int .i64 0) rfl; have hc_H_0 := co B_H 0 (.int .i64 t1) rfl; have hc_H_1 := co B_H 1 (.int .i64 t2) rfl; have hc_H_2 := co B_H 2 (.bool t3) rfl; have hc_H_3 := co B_H 3 (.int .i64 t4) rfl)
  | ((with_reducible refine gate_store (t := 34) (p := 4) (v := .tmp 32) rfl ?_)
     refine rowput rfl 34 (.tmp 4) (.tmp 32) rfl rfl g_R #[.int .i64 0, .int .i64 0, .bool false, .int .i64 0] rfl rfl 34 #[.int .i64 0, .int .i64 0, .bool false, .int .i64 0] (by exact bl B_R) (by kernel_rfl) rfl (by simp [Value.oneCell']) ?_
     intro w6 hbox hu
     replace B_H := Aside0.mk (hu.blk (by exact bl B_H) NE_H_R.out)
     replace HU := Aside0.mk (((by exact ul HU) : Upd None0 w _).trans hu (fun k hk => .inr (by rw [hk]; exact GE_R.out)))
     clear hu
     clear B_R; have B_R := Aside0.mk hbox; clear hbox
     (try clear hc_R_0 hc_R_1 hc_R_2 hc_R_3 hc_H_0 hc_H_1 hc_H_2 hc_H_3)
     have hc_R_0 := co B_R 0 (.int .i64 0) rfl; have hc_R_1 := co B_R 1 (.int .i64 0) rfl; have hc_R_2 := co B_R 2 (.bool false) rfl; have hc_R_3 := co B_R 3 (.int .i64 0) rfl; have hc_H_0 := co B_H 0 (.int .i64 t1) rfl; have hc_H_1 := co B_H 1 (.int .i64 t2) rfl; have hc_H_2 := co B_H 2 (.bool t3) rfl; have hc_H_3 := co B_H 3 (.int .i64 t4) rfl))
 refine bodyPost_ret (results_ctt rfl _ _ g_R 34 #[.int .i64 0, .int .i64 0, .bool false, .int .i64 0] (0, 0) _ rfl (by exact bl B_R) Try.underlying34 rfl (by kernel_rfl)) rfl ?_
 exact ⟨rfl, Upd.below0 (by exact ul HU)⟩
set_option maxHeartbeats 4000000 in
set_option maxRecDepth 100000 in
theorem head_Get.no (k : Nat) (a0 : ByteArray) (a1 t1 t2 : Int) (t3 : Bool) (t4 t5 t6 : Int) (h1 : ident_Get.f k a0 a1 = some (t1, t2, t3, t4, t5, t6)) (h0 : t6 ≠ 0) (w : World) :
 Calls Try.prog 40 #[.string a0, .int .i64 a1] w fun e w' => e = .returned (.tuple #[.agg #[.int .i64 0, .int .i64 0, .bool false, .int .i64 0], .int .i64 t5, .int .i64 t6]) ∧ Below w.heap.size w w' := by
 have HU := Aside0.mk (Upd.refl None0 w)
 have A3 := Aside0.mk h1
 have hu_ := Try.underlying34
 have c1 : (t6 != 0) = true := bne_iff_ne.2 h0
 clear h1
 go_enter Try.func40, Try.ntmps40
 go_wp2_with (first
  | ((with_reducible refine gate_dst (N := 4) rfl ?_)
     refine boxnew ?hg (N := 4) ?hd (cs := #[.int .i64 0, .int .i64 0, .bool false, .int .i64 0]) (t := 34) ?hr ?_; (case hd => rfl); (case hg => rfl); (case hr => first | (go_simp; done) | (go_simp; rfl))
     intro g_R hge w1 hbox hu
     have GE_R := Aside0.mk (Nat.le_trans ((by exact ul HU) : Upd None0 w _).size hge)
     replace HU := Aside0.mk (((by exact ul HU) : Upd None0 w _).trans hu (fun _ h => h.elim))
     clear hu
     have B_R := Aside0.mk hbox; clear hbox hge
     have hc_R_0 := co B_R 0 (.int .i64 0) rfl; have hc_R_1 := co B_R 1 (.int .i64 0) rfl; have hc_R_2 := co B_R 2 (.bool false) rfl; have hc_R_3 := co B_R 3 (.int .i64 0) rfl)
  | (go_at_call 44
     (with_reducible refine (ident_Get.calls k a0 a1 t1 t2 t3 t4 t5 t6 _ A3.out).mono ?_)
     rintro e w2 ⟨rfl, hb⟩
     have hu := (Upd.of_below hb : Upd None0 _ _)
     replace B_R := Aside0.mk (hu.blk (by exact bl B_R) (fun h => h))
     replace HU := Aside0.mk (((by exact ul HU) : Upd None0 w _).trans hu (fun _ h => h.elim))
     clear hu
     (try clear hc_R_0 hc_R_1 hc_R_2 hc_R_3)
     have hc_R_0 := co B_R 0 (.int .i64 0) rfl; have hc_R_1 := co B_R 1 (.int .i64 0) rfl; have hc_R_2 := co B_R 2 (.bool false) rfl; have hc_R_3 := co B_R 3 (.int .i64 0) rfl)
  | ((with_reducible refine gate_dst (N := 7) rfl ?_)
     refine boxnew ?hg (N := 7) ?hd (cs := #[.int .i64 0, .int .i64 0, .bool false, .int .i64 0]) (t := 34) ?hr ?_; (case hd => rfl); (case hg => rfl); (case hr => first | (go_simp; done) | (go_simp; rfl))
     intro g_H hge w3 hbox hu
     have NE_H_R := Aside0.mk (Ne.symm (blk_fresh (by exact bl B_R) hge))
     have GE_H := Aside0.mk (Nat.le_trans ((by exact ul HU) : Upd None0 w _).size hge)
     replace B_R := Aside0.mk (hu.blk (by exact bl B_R) (fun h => h))
     replace HU := Aside0.mk (((by exact ul HU) : Upd None0 w _).trans hu (fun _ h => h.elim))
     clear hu
     have B_H := Aside0.mk hbox; clear hbox hge
     (try clear hc_R_0 hc_R_1 hc_R_2 hc_R_3)
     have hc_R_0 := co B_R 0 (.int .i64 0) rfl; have hc_R_1 := co B_R 1 (.int .i64 0) rfl; have hc_R_2 := co B_R 2 (.bool false) rfl; have hc_R_3 := co B_R 3 (.int .i64 0) rfl; have hc_H_0 := co B_H 0 (.int .i64 0) rfl; have hc_H_1 := co B_H 1 (.int .i64 0) rfl; have hc_H_2 := co B_H 2 (.bool false) rfl; have hc_H_3 := co B_H 3 (.int .i64 0) rfl)
  | ((with_reducible refine gate_store (t := 34) (p := 7) (v := .tmp 15) rfl ?_)
     refine rowput rfl 34 (.tmp 7) (.tmp 15) rfl rfl g_H #[.int .i64 t1, .int .i64 t2, .bool t3, .int .i64 t4] rfl rfl 34 #[.int .i64 0, .int .i64 0, .bool false, .int .i64 0] (by exact bl B_H) (by kernel_rfl) rfl (by simp [Value.oneCell']) ?_
     intro w4 hbox hu
     replace B_R := Aside0.mk (hu.blk (by exact bl B_R) (Ne.symm NE_H_R.out))
     replace HU := Aside0.mk (((by exact ul HU) : Upd None0 w _).trans hu (fun k hk => .inr (by rw [hk]; exact GE_H.out)))
     clear hu
     clear B_H; have B_H := Aside0.mk hbox; clear hbox
     (try clear hc_R_0 hc_R_1 hc_R_2 hc_R_3 hc_H_0 hc_H_1 hc_H_2 hc_H_3)
     have hc_R_0 := co B_R 0 (.int .i64 0) rfl; have hc_R_1 := co B_R 1 (.int .i64 0) rfl; have hc_R_2 := co B_R 2 (.bool false) rfl; have hc_R_3 := co B_R 3 (.int .i64 0) rfl; have hc_H_0 := co B_H 0 (.int .i64 t1) rfl; have hc_H_1 := co B_H 1 (.int .i64 t2) rfl; have hc_H_2 := co B_H 2 (.bool t3) rfl; have hc_H_3 := co B_H 3 (.int .i64 t4) rfl)
  | ((with_reducible refine gate_store (t := 34) (p := 4) (v := .tmp 20) rfl ?_)
     refine rowput rfl 34 (.tmp 4) (.tmp 20) rfl rfl g_R #[.int .i64 0, .int .i64 0, .bool false, .int .i64 0] rfl rfl 34 #[.int .i64 0, .int .i64 0, .bool false, .int .i64 0] (by exact bl B_R) (by kernel_rfl) rfl (by simp [Value.oneCell']) ?_
     intro w5 hbox hu
     replace B_H := Aside0.mk (hu.blk (by exact bl B_H) NE_H_R.out)
     replace HU := Aside0.mk (((by exact ul HU) : Upd None0 w _).trans hu (fun k hk => .inr (by rw [hk]; exact GE_R.out)))
     clear hu
     clear B_R; have B_R := Aside0.mk hbox; clear hbox
     (try clear hc_R_0 hc_R_1 hc_R_2 hc_R_3 hc_H_0 hc_H_1 hc_H_2 hc_H_3)
     have hc_R_0 := co B_R 0 (.int .i64 0) rfl; have hc_R_1 := co B_R 1 (.int .i64 0) rfl; have hc_R_2 := co B_R 2 (.bool false) rfl; have hc_R_3 := co B_R 3 (.int .i64 0) rfl; have hc_H_0 := co B_H 0 (.int .i64 t1) rfl; have hc_H_1 := co B_H 1 (.int .i64 t2) rfl; have hc_H_2 := co B_H 2 (.bool t3) rfl; have hc_H_3 := co B_H 3 (.int .i64 t4) rfl))
 refine bodyPost_ret (results_ctt rfl _ _ g_R 34 #[.int .i64 0, .int .i64 0, .bool false, .int .i64 0] (0, 0) _ rfl (by exact bl B_R) Try.underlying34 rfl (by kernel_rfl)) rfl ?_
 exact ⟨rfl, Upd.below0 (by exact ul HU)⟩
theorem head_Get.calls (k : Nat) (a0 : ByteArray) (a1 : Int) (r1 : Int) (r2 : Int) (r3 : Bool) (r4 : Int) (r5 : Int) (r6 : Int) (w : World) (h : head_Get.f k a0 a1 = some (r1, r2, r3, r4, r5, r6)) :
 Calls Try.prog 40 #[.string a0, .int .i64 a1] w fun e w' => e = .returned (.tuple #[.agg #[.int .i64 r1, .int .i64 r2, .bool r3, .int .i64 r4], .int .i64 r5, .int .i64 r6]) ∧ Below w.heap.size w w' := by
 unfold head_Get.f at h
 obtain ⟨⟨t1, t2, t3, t4, t5, t6⟩, h1, h⟩ := Option.bind_eq_some_iff.mp h
 simp only at h
 by_cases c : t6 = 0
 ·
  rw [if_pos c] at h
  obtain ⟨⟨t8, t9, t10⟩, h2, h⟩ := Option.bind_eq_some_iff.mp h
  simp only at h
  by_cases c2 : t10 = 0
  ·
   rw [if_pos c2] at h
   simp only [Option.some.injEq, Prod.mk.injEq] at h
   obtain ⟨rfl, rfl, rfl, rfl, rfl, rfl⟩ := h
   exact head_Get.ok k a0 a1 _ _ _ _ _ _ _ _ _ h1 c h2 c2 w
  ·
   rw [if_neg c2] at h
   simp only [Option.some.injEq, Prod.mk.injEq] at h
   obtain ⟨rfl, rfl, rfl, rfl, rfl, rfl⟩ := h
   exact head_Get.cut k a0 a1 _ _ _ _ _ _ _ _ _ h1 c h2 c2 w
 ·
  rw [if_neg c] at h
  simp only [Option.some.injEq, Prod.mk.injEq] at h
  obtain ⟨rfl, rfl, rfl, rfl, rfl, rfl⟩ := h
  exact head_Get.no k a0 a1 _ _ _ _ _ _ h1 c w

-- NOT PRINTED: function 32 (head_Reader_Push)

-- NOT PRINTED: function 38 (stack_Stack_Take)

-- NOT PRINTED: function 37 (event_Machine_content)

-- NOT PRINTED: function 42 (stack_Stack_Left)

-- NOT PRINTED: function 43 (stack_Stack_Enter)

-- NOT PRINTED: function 39 (event_Machine_begin)

-- NOT PRINTED: function 28 (event_Machine_step)

-- NOT PRINTED: function 29 (stack_Stack_Leave)

-- NOT PRINTED: function 19 (event_Machine_Push)

end Go.Proofs.Ytomaajagncjiiaa.PC
