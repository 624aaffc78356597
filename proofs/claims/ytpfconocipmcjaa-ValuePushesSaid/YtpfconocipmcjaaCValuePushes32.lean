/- What the row of ValuePushes stands on, made small by a program of this session (pack.py). -/
import Derived.Test.YtpfconocipmcjaaCValuePushes2
import Derived.Test.YtpfconocipmcjaaCValuePushes4
import Derived.Test.YtpfconocipmcjaaCValuePushes31
namespace Go.Proofs.Ytpfconocipmcjaa.PC
open RowKit YtpfconocipmcjaaW.PrintWords YtpfconocipmcjaaW.PrintLast YtpfconocipmcjaaW.PrintMore
attribute [local go_sem] max2_int min2_int max_two min_two max_three min_three max_four min_four
set_option linter.unusedVariables false
set_option linter.unusedSimpArgs false
open Own
def gantletref07_Get.f (k : Nat) (a0 : ByteArray) (a1 : Int) : Option (Int × Int × Bool × Int × Int × Int) := (gantletref05_Get.f k a0 a1).bind fun bt181 => (if bt181.2.2.2.2.2 = 0 then ((gantletref06_Get.f k a0 bt181.2.2.2.2.1).bind fun bt188 => (if bt188.2.2 = 0 then (some (bt181.1, bt181.2.1, bt181.2.2.1, bt188.1, bt188.2.1, 0)) else (some (0, 0, false, 0, bt188.2.1, bt188.2.2)))) else (some (bt181.1, bt181.2.1, bt181.2.2.1, bt181.2.2.2.1, bt181.2.2.2.2.1, bt181.2.2.2.2.2)))
set_option maxHeartbeats 4000000 in
set_option maxRecDepth 100000 in
theorem gantletref07_Get.ok (k : Nat) (a0 : ByteArray) (a1 t1 t2 : Int) (t3 : Bool) (t4 t5 t6 : Int) (t8 t9 t10 : Int) (h1 : gantletref05_Get.f k a0 a1 = some (t1, t2, t3, t4, t5, t6)) (h0 : t6 = 0) (h2 : gantletref06_Get.f k a0 t5 = some (t8, t9, t10)) (h3 : t10 = 0) (w : World) :
 Calls Try.prog 41 #[.string a0, .int .i64 a1] w fun e w' => e = .returned (.tuple #[.agg #[.int .i64 t1, .int .i64 t2, .bool t3, .int .i64 t8], .int .i64 t9, .int .i64 0]) ∧ Below w.heap.size w w' := by
 have HU := Aside0.mk (Upd.refl None0 w)
 have A3 := Aside0.mk h1
 have hu_ := Try.underlying37
 have A5 := Aside0.mk h2
 subst h0 h3
 clear h1 h2
 go_enter Try.func41, Try.ntmps41
 go_wp2_with (first
  | ((with_reducible refine gate_dst (N := 4) rfl ?_)
     refine boxnew ?hg (N := 4) ?hd (cs := #[.int .i64 0, .int .i64 0, .bool false, .int .i64 0]) (t := 37) ?hr ?_; (case hd => rfl); (case hg => rfl); (case hr => first | (go_simp; done) | (go_simp; rfl))
     intro g_R hge w1 hbox hu
     have GE_R := Aside0.mk (Nat.le_trans (zz9 : Upd None0 w _).size hge)
     replace HU := Aside0.mk ((zz9 : Upd None0 w _).trans hu (fun _ h => h.elim))
     clear hu
     have B_R := Aside0.mk hbox; clear hbox hge
     have hc_R_0 := co B_R 0 (.int .i64 0) rfl; have hc_R_1 := co B_R 1 (.int .i64 0) rfl; have hc_R_2 := co B_R 2 (.bool false) rfl; have hc_R_3 := co B_R 3 (.int .i64 0) rfl)
  | (go_at_call 59
     (with_reducible refine (gantletref05_Get.calls k a0 a1 t1 t2 t3 t4 t5 0 _ A3.out).mono ?_)
     rintro e w2 ⟨rfl, hb⟩
     have hu := (Upd.of_below hb : Upd None0 _ _)
     replace B_R := Aside0.mk (hu.blk zz33 (fun h => h))
     replace HU := Aside0.mk ((zz9 : Upd None0 w _).trans hu (fun _ h => h.elim))
     clear hu
     (try clear hc_R_0 hc_R_1 hc_R_2 hc_R_3)
     have hc_R_0 := co B_R 0 (.int .i64 0) rfl; have hc_R_1 := co B_R 1 (.int .i64 0) rfl; have hc_R_2 := co B_R 2 (.bool false) rfl; have hc_R_3 := co B_R 3 (.int .i64 0) rfl)
  | ((with_reducible refine gate_dst (N := 7) rfl ?_)
     refine boxnew ?hg (N := 7) ?hd (cs := #[.int .i64 0, .int .i64 0, .bool false, .int .i64 0]) (t := 37) ?hr ?_; (case hd => rfl); (case hg => rfl); (case hr => first | (go_simp; done) | (go_simp; rfl))
     intro g_H hge w3 hbox hu
     have NE_H_R := Aside0.mk (Ne.symm (blk_fresh zz33 hge))
     have GE_H := Aside0.mk (Nat.le_trans (zz9 : Upd None0 w _).size hge)
     replace B_R := Aside0.mk (hu.blk zz33 (fun h => h))
     replace HU := Aside0.mk ((zz9 : Upd None0 w _).trans hu (fun _ h => h.elim))
     clear hu
     have B_H := Aside0.mk hbox; clear hbox hge
     (try clear hc_R_0 hc_R_1 hc_R_2 hc_R_3)
     have hc_R_0 := co B_R 0 (.int .i64 0) rfl; have hc_R_1 := co B_R 1 (.int .i64 0) rfl; have hc_R_2 := co B_R 2 (.bool false) rfl; have hc_R_3 := co B_R 3 (.int .i64 0) rfl; have hc_H_0 := co B_H 0 (.int .i64 0) rfl; have hc_H_1 := co B_H 1 (.int .i64 0) rfl; have hc_H_2 := co B_H 2 (.bool false) rfl; have hc_H_3 := co B_H 3 (.int .i64 0) rfl)
  | ((with_reducible refine gate_store (t := 37) (p := 7) (v := .tmp 15) rfl ?_)
     refine rowput rfl 37 (.tmp 7) (.tmp 15) rfl rfl g_H #[.int .i64 t1, .int .i64 t2, .bool t3, .int .i64 t4] rfl rfl 37 #[.int .i64 0, .int .i64 0, .bool false, .int .i64 0] zz26 zz8 rfl zz17 ?_
     intro w4 hbox hu
     replace B_R := Aside0.mk (hu.blk zz33 (Ne.symm NE_H_R.out))
     replace HU := Aside0.mk ((zz9 : Upd None0 w _).trans hu (fun k hk => .inr zz41))
     clear hu
     clear B_H; have B_H := Aside0.mk hbox; clear hbox
     (try clear hc_R_0 hc_R_1 hc_R_2 hc_R_3 hc_H_0 hc_H_1 hc_H_2 hc_H_3)
     have hc_R_0 := co B_R 0 (.int .i64 0) rfl; have hc_R_1 := co B_R 1 (.int .i64 0) rfl; have hc_R_2 := co B_R 2 (.bool false) rfl; have hc_R_3 := co B_R 3 (.int .i64 0) rfl; have hc_H_0 := co B_H 0 (.int .i64 t1) rfl; have hc_H_1 := co B_H 1 (.int .i64 t2) rfl; have hc_H_2 := co B_H 2 (.bool t3) rfl; have hc_H_3 := co B_H 3 (.int .i64 t4) rfl)
  | (go_at_call 60
     (with_reducible refine (gantletref06_Get.calls k a0 t5 t8 t9 0 _ A5.out).mono ?_)
     rintro e w5 ⟨rfl, hb⟩
     have hu := (Upd.of_below hb.below : Upd None0 _ _)
     replace B_R := Aside0.mk (hu.blk zz33 (fun h => h))
     replace B_H := Aside0.mk (hu.blk zz26 (fun h => h))
     replace HU := Aside0.mk ((zz9 : Upd None0 w _).trans hu (fun _ h => h.elim))
     clear hu
     (try clear hc_R_0 hc_R_1 hc_R_2 hc_R_3 hc_H_0 hc_H_1 hc_H_2 hc_H_3)
     have hc_R_0 := co B_R 0 (.int .i64 0) rfl; have hc_R_1 := co B_R 1 (.int .i64 0) rfl; have hc_R_2 := co B_R 2 (.bool false) rfl; have hc_R_3 := co B_R 3 (.int .i64 0) rfl; have hc_H_0 := co B_H 0 (.int .i64 t1) rfl; have hc_H_1 := co B_H 1 (.int .i64 t2) rfl; have hc_H_2 := co B_H 2 (.bool t3) rfl; have hc_H_3 := co B_H 3 (.int .i64 t4) rfl)
  | ((with_reducible refine gate_store (t := 3) (p := 36) (v := .tmp 35) rfl ?_)
     refine cellput rfl 3 (.tmp 36) (.tmp 35) rfl rfl g_H 3 (.int .i64 t8) rfl rfl 37 #[.int .i64 t1, .int .i64 t2, .bool t3, .int .i64 t4] #[.int .i64 t1, .int .i64 t2, .bool t3, .int .i64 t8] zz26 zz8 zz29 rfl rfl ?_
     intro w6 hbox hu
     replace B_R := Aside0.mk (hu.blk zz33 (Ne.symm NE_H_R.out))
     replace HU := Aside0.mk ((zz9 : Upd None0 w _).trans hu (fun k hk => .inr zz41))
     clear hu
     clear B_H; have B_H := Aside0.mk hbox; clear hbox
     (try clear hc_R_0 hc_R_1 hc_R_2 hc_R_3 hc_H_0 hc_H_1 hc_H_2 hc_H_3)
     have hc_R_0 := co B_R 0 (.int .i64 0) rfl; have hc_R_1 := co B_R 1 (.int .i64 0) rfl; have hc_R_2 := co B_R 2 (.bool false) rfl; have hc_R_3 := co B_R 3 (.int .i64 0) rfl; have hc_H_0 := co B_H 0 (.int .i64 t1) rfl; have hc_H_1 := co B_H 1 (.int .i64 t2) rfl; have hc_H_2 := co B_H 2 (.bool t3) rfl; have hc_H_3 := co B_H 3 (.int .i64 t8) rfl)
  | ((with_reducible refine gate_store (t := 37) (p := 4) (v := .tmp 37) rfl ?_)
     refine rowput rfl 37 (.tmp 4) (.tmp 37) rfl rfl g_R #[.int .i64 t1, .int .i64 t2, .bool t3, .int .i64 t8] rfl rfl 37 #[.int .i64 0, .int .i64 0, .bool false, .int .i64 0] zz33 zz8 rfl zz17 ?_
     intro w7 hbox hu
     replace B_H := Aside0.mk (hu.blk zz26 NE_H_R.out)
     replace HU := Aside0.mk ((zz9 : Upd None0 w _).trans hu (fun k hk => .inr (by rw [hk]; exact GE_R.out)))
     clear hu
     clear B_R; have B_R := Aside0.mk hbox; clear hbox
     (try clear hc_R_0 hc_R_1 hc_R_2 hc_R_3 hc_H_0 hc_H_1 hc_H_2 hc_H_3)
     have hc_R_0 := co B_R 0 (.int .i64 t1) rfl; have hc_R_1 := co B_R 1 (.int .i64 t2) rfl; have hc_R_2 := co B_R 2 (.bool t3) rfl; have hc_R_3 := co B_R 3 (.int .i64 t8) rfl; have hc_H_0 := co B_H 0 (.int .i64 t1) rfl; have hc_H_1 := co B_H 1 (.int .i64 t2) rfl; have hc_H_2 := co B_H 2 (.bool t3) rfl; have hc_H_3 := co B_H 3 (.int .i64 t8) rfl))
 refine bodyPost_ret (results_ctt rfl _ _ g_R 37 #[.int .i64 t1, .int .i64 t2, .bool t3, .int .i64 t8] (0, 0) _ rfl zz33 Try.underlying37 rfl zz8) rfl ?_
 exact ⟨rfl, Upd.below0 zz9⟩
set_option maxHeartbeats 4000000 in
set_option maxRecDepth 100000 in
theorem gantletref07_Get.cut (k : Nat) (a0 : ByteArray) (a1 t1 t2 : Int) (t3 : Bool) (t4 t5 t6 : Int) (t8 t9 t10 : Int) (h1 : gantletref05_Get.f k a0 a1 = some (t1, t2, t3, t4, t5, t6)) (h0 : t6 = 0) (h2 : gantletref06_Get.f k a0 t5 = some (t8, t9, t10)) (h3 : t10 ≠ 0) (w : World) :
 Calls Try.prog 41 #[.string a0, .int .i64 a1] w fun e w' => e = .returned (.tuple #[.agg #[.int .i64 0, .int .i64 0, .bool false, .int .i64 0], .int .i64 t9, .int .i64 t10]) ∧ Below w.heap.size w w' := by
 have HU := Aside0.mk (Upd.refl None0 w)
 have A3 := Aside0.mk h1
 have hu_ := Try.underlying37
 have A5 := Aside0.mk h2
 subst h0
 have c1 : (t10 != 0) = true := bne_iff_ne.2 h3
 clear h1 h2
 go_enter Try.func41, Try.ntmps41
 go_wp2_with (first
  | ((with_reducible refine gate_dst (N := 4) rfl ?_)
     refine boxnew ?hg (N := 4) ?hd (cs := #[.int .i64 0, .int .i64 0, .bool false, .int .i64 0]) (t := 37) ?hr ?_; (case hd => rfl); (case hg => rfl); (case hr => first | (go_simp; done) | (go_simp; rfl))
     intro g_R hge w1 hbox hu
     have GE_R := Aside0.mk (Nat.le_trans (zz9 : Upd None0 w _).size hge)
     replace HU := Aside0.mk ((zz9 : Upd None0 w _).trans hu (fun _ h => h.elim))
     clear hu
     have B_R := Aside0.mk hbox; clear hbox hge
     have hc_R_0 := co B_R 0 (.int .i64 0) rfl; have hc_R_1 := co B_R 1 (.int .i64 0) rfl; have hc_R_2 := co B_R 2 (.bool false) rfl; have hc_R_3 := co B_R 3 (.int .i64 0) rfl)
  | (go_at_call 59
     (with_reducible refine (gantletref05_Get.calls k a0 a1 t1 t2 t3 t4 t5 0 _ A3.out).mono ?_)
     rintro e w2 ⟨rfl, hb⟩
     have hu := (Upd.of_below hb : Upd None0 _ _)
     replace B_R := Aside0.mk (hu.blk zz33 (fun h => h))
     replace HU := Aside0.mk ((zz9 : Upd None0 w _).trans hu (fun _ h => h.elim))
     clear hu
     (try clear hc_R_0 hc_R_1 hc_R_2 hc_R_3)
     have hc_R_0 := co B_R 0 (.int .i64 0) rfl; have hc_R_1 := co B_R 1 (.int .i64 0) rfl; have hc_R_2 := co B_R 2 (.bool false) rfl; have hc_R_3 := co B_R 3 (.int .i64 0) rfl)
  | ((with_reducible refine gate_dst (N := 7) rfl ?_)
     refine boxnew ?hg (N := 7) ?hd (cs := #[.int .i64 0, .int .i64 0, .bool false, .int .i64 0]) (t := 37) ?hr ?_; (case hd => rfl); (case hg => rfl); (case hr => first | (go_simp; done) | (go_simp; rfl))
     intro g_H hge w3 hbox hu
     have NE_H_R := Aside0.mk (Ne.symm (blk_fresh zz33 hge))
     have GE_H := Aside0.mk (Nat.le_trans (zz9 : Upd None0 w _).size hge)
     replace B_R := Aside0.mk (hu.blk zz33 (fun h => h))
     replace HU := Aside0.mk ((zz9 : Upd None0 w _).trans hu (fun _ h => h.elim))
     clear hu
     have B_H := Aside0.mk hbox; clear hbox hge
     (try clear hc_R_0 hc_R_1 hc_R_2 hc_R_3)
     have hc_R_0 := co B_R 0 (.int .i64 0) rfl; have hc_R_1 := co B_R 1 (.int .i64 0) rfl; have hc_R_2 := co B_R 2 (.bool false) rfl; have hc_R_3 := co B_R 3 (.int .i64 0) rfl; have hc_H_0 := co B_H 0 (.int .i64 0) rfl; have hc_H_1 := co B_H 1 (.int .i64 0) rfl; have hc_H_2 := co B_H 2 (.bool false) rfl; have hc_H_3 := co B_H 3 (.int .i64 0) rfl)
  | ((with_reducible refine gate_store (t := 37) (p := 7) (v := .tmp 15) rfl ?_)
     refine rowput rfl 37 (.tmp 7) (.tmp 15) rfl rfl g_H #[.int .i64 t1, .int .i64 t2, .bool t3, .int .i64 t4] rfl rfl 37 #[.int .i64 0, .int .i64 0, .bool false, .int .i64 0] zz26 zz8 rfl zz17 ?_
     intro w4 hbox hu
     replace B_R := Aside0.mk (hu.blk zz33 (Ne.symm NE_H_R.out))
     replace HU := Aside0.mk ((zz9 : Upd None0 w _).trans hu (fun k hk => .inr zz41))
     clear hu
     clear B_H; have B_H := Aside0.mk hbox; clear hbox
     (try clear hc_R_0 hc_R_1 hc_R_2 hc_R_3 hc_H_0 hc_H_1 hc_H_2 hc_H_3)
     have hc_R_0 := co B_R 0 (.int .i64 0) rfl; have hc_R_1 := co B_R 1 (.int .i64 0) rfl; have hc_R_2 := co B_R 2 (.bool false) rfl; have hc_R_3 := co B_R 3 (.int .i64 0) rfl; have hc_H_0 := co B_H 0 (.int .i64 t1) rfl; have hc_H_1 := co B_H 1 (.int .i64 t2) rfl; have hc_H_2 := co B_H 2 (.bool t3) rfl; have hc_H_3 := co B_H 3 (.int .i64 t4) rfl)
  | (go_at_call 60
     (with_reducible refine (gantletref06_Get.calls k a0 t5 t8 t9 t10 _ A5.out).mono ?_)
     rintro e w5 ⟨rfl, hb⟩
     have hu := (Upd.of_below hb.below : Upd None0 _ _)
     replace B_R := Aside0.mk (hu.blk zz33 (fun h => h))
     replace B_H := Aside0.mk (hu.blk zz26 (fun h => h))
     replace HU := Aside0.mk ((zz9 : Upd None0 w _).trans hu (fun _ h => h.elim))
     clear hu
     (try clear hc_R_0 hc_R_1 hc_R_2 hc_R_3 hc_H_0 hc_H_1 hc_H_2 hc_H_3)
     have hc_R_0 := co B_R 0 (.int .i64 0) rfl; have hc_R_1 := co B_R 1 (.int .i64 0) rfl; have hc_R_2 := co B_R 2 (.bool false) rfl; have hc_R_3 := co B_R 3 (.int .i64 0) rfl; have hc_H_0 := co B_H 0 (.int .i64 t1) rfl; have hc_H_1 := co B_H 1 (.int .i64 t2) rfl; have hc_H_2 := co B_H 2 (.bool t3) rfl; have hc_H_3 := co B_H 3 (.int .i64 t4) rfl)
  | ((with_reducible refine gate_store (t := 37) (p := 4) (v := .tmp 32) rfl ?_)
     refine rowput rfl 37 (.tmp 4) (.tmp 32) rfl rfl g_R #[.int .i64 0, .int .i64 0, .bool false, .int .i64 0] rfl rfl 37 #[.int .i64 0, .int .i64 0, .bool false, .int .i64 0] zz33 zz8 rfl zz17 ?_
     intro w6 hbox hu
     replace B_H := Aside0.mk (hu.blk zz26 NE_H_R.out)
     replace HU := Aside0.mk ((zz9 : Upd None0 w _).trans hu (fun k hk => .inr (by rw [hk]; exact GE_R.out)))
     clear hu
     clear B_R; have B_R := Aside0.mk hbox; clear hbox
     (try clear hc_R_0 hc_R_1 hc_R_2 hc_R_3 hc_H_0 hc_H_1 hc_H_2 hc_H_3)
     have hc_R_0 := co B_R 0 (.int .i64 0) rfl; have hc_R_1 := co B_R 1 (.int .i64 0) rfl; have hc_R_2 := co B_R 2 (.bool false) rfl; have hc_R_3 := co B_R 3 (.int .i64 0) rfl; have hc_H_0 := co B_H 0 (.int .i64 t1) rfl; have hc_H_1 := co B_H 1 (.int .i64 t2) rfl; have hc_H_2 := co B_H 2 (.bool t3) rfl; have hc_H_3 := co B_H 3 (.int .i64 t4) rfl))
 refine bodyPost_ret (results_ctt rfl _ _ g_R 37 #[.int .i64 0, .int .i64 0, .bool false, .int .i64 0] (0, 0) _ rfl zz33 Try.underlying37 rfl zz8) rfl ?_
 exact ⟨rfl, Upd.below0 zz9⟩
set_option maxHeartbeats 4000000 in
set_option maxRecDepth 100000 in
theorem gantletref07_Get.no (k : Nat) (a0 : ByteArray) (a1 t1 t2 : Int) (t3 : Bool) (t4 t5 t6 : Int) (h1 : gantletref05_Get.f k a0 a1 = some (t1, t2, t3, t4, t5, t6)) (h0 : t6 ≠ 0) (w : World) :
 Calls Try.prog 41 #[.string a0, .int .i64 a1] w fun e w' => e = .returned (.tuple #[.agg #[.int .i64 t1, .int .i64 t2, .bool t3, .int .i64 t4], .int .i64 t5, .int .i64 t6]) ∧ Below w.heap.size w w' := by
 have HU := Aside0.mk (Upd.refl None0 w)
 have A3 := Aside0.mk h1
 have hu_ := Try.underlying37
 have c1 : (t6 != 0) = true := bne_iff_ne.2 h0
 clear h1
 go_enter Try.func41, Try.ntmps41
 go_wp2_with (first
  | ((with_reducible refine gate_dst (N := 4) rfl ?_)
     refine boxnew ?hg (N := 4) ?hd (cs := #[.int .i64 0, .int .i64 0, .bool false, .int .i64 0]) (t := 37) ?hr ?_; (case hd => rfl); (case hg => rfl); (case hr => first | (go_simp; done) | (go_simp; rfl))
     intro g_R hge w1 hbox hu
     have GE_R := Aside0.mk (Nat.le_trans (zz9 : Upd None0 w _).size hge)
     replace HU := Aside0.mk ((zz9 : Upd None0 w _).trans hu (fun _ h => h.elim))
     clear hu
     have B_R := Aside0.mk hbox; clear hbox hge
     have hc_R_0 := co B_R 0 (.int .i64 0) rfl; have hc_R_1 := co B_R 1 (.int .i64 0) rfl; have hc_R_2 := co B_R 2 (.bool false) rfl; have hc_R_3 := co B_R 3 (.int .i64 0) rfl)
  | (go_at_call 59
     (with_reducible refine (gantletref05_Get.calls k a0 a1 t1 t2 t3 t4 t5 t6 _ A3.out).mono ?_)
     rintro e w2 ⟨rfl, hb⟩
     have hu := (Upd.of_below hb : Upd None0 _ _)
     replace B_R := Aside0.mk (hu.blk zz33 (fun h => h))
     replace HU := Aside0.mk ((zz9 : Upd None0 w _).trans hu (fun _ h => h.elim))
     clear hu
     (try clear hc_R_0 hc_R_1 hc_R_2 hc_R_3)
     have hc_R_0 := co B_R 0 (.int .i64 0) rfl; have hc_R_1 := co B_R 1 (.int .i64 0) rfl; have hc_R_2 := co B_R 2 (.bool false) rfl; have hc_R_3 := co B_R 3 (.int .i64 0) rfl)
  | ((with_reducible refine gate_dst (N := 7) rfl ?_)
     refine boxnew ?hg (N := 7) ?hd (cs := #[.int .i64 0, .int .i64 0, .bool false, .int .i64 0]) (t := 37) ?hr ?_; (case hd => rfl); (case hg => rfl); (case hr => first | (go_simp; done) | (go_simp; rfl))
     intro g_H hge w3 hbox hu
     have NE_H_R := Aside0.mk (Ne.symm (blk_fresh zz33 hge))
     have GE_H := Aside0.mk (Nat.le_trans (zz9 : Upd None0 w _).size hge)
     replace B_R := Aside0.mk (hu.blk zz33 (fun h => h))
     replace HU := Aside0.mk ((zz9 : Upd None0 w _).trans hu (fun _ h => h.elim))
     clear hu
     have B_H := Aside0.mk hbox; clear hbox hge
     (try clear hc_R_0 hc_R_1 hc_R_2 hc_R_3)
     have hc_R_0 := co B_R 0 (.int .i64 0) rfl; have hc_R_1 := co B_R 1 (.int .i64 0) rfl; have hc_R_2 := co B_R 2 (.bool false) rfl; have hc_R_3 := co B_R 3 (.int .i64 0) rfl; have hc_H_0 := co B_H 0 (.int .i64 0) rfl; have hc_H_1 := co B_H 1 (.int .i64 0) rfl; have hc_H_2 := co B_H 2 (.bool false) rfl; have hc_H_3 := co B_H 3 (.int .i64 0) rfl)
  | ((with_reducible refine gate_store (t := 37) (p := 7) (v := .tmp 15) rfl ?_)
     refine rowput rfl 37 (.tmp 7) (.tmp 15) rfl rfl g_H #[.int .i64 t1, .int .i64 t2, .bool t3, .int .i64 t4] rfl rfl 37 #[.int .i64 0, .int .i64 0, .bool false, .int .i64 0] zz26 zz8 rfl zz17 ?_
     intro w4 hbox hu
     replace B_R := Aside0.mk (hu.blk zz33 (Ne.symm NE_H_R.out))
     replace HU := Aside0.mk ((zz9 : Upd None0 w _).trans hu (fun k hk => .inr zz41))
     clear hu
     clear B_H; have B_H := Aside0.mk hbox; clear hbox
     (try clear hc_R_0 hc_R_1 hc_R_2 hc_R_3 hc_H_0 hc_H_1 hc_H_2 hc_H_3)
     have hc_R_0 := co B_R 0 (.int .i64 0) rfl; have hc_R_1 := co B_R 1 (.int .i64 0) rfl; have hc_R_2 := co B_R 2 (.bool false) rfl; have hc_R_3 := co B_R 3 (.int .i64 0) rfl; have hc_H_0 := co B_H 0 (.int .i64 t1) rfl; have hc_H_1 := co B_H 1 (.int .i64 t2) rfl; have hc_H_2 := co B_H 2 (.bool t3) rfl; have hc_H_3 := co B_H 3 (.int .i64 t4) rfl)
  | ((with_reducible refine gate_store (t := 37) (p := 4) (v := .tmp 20) rfl ?_)
     refine rowput rfl 37 (.tmp 4) (.tmp 20) rfl rfl g_R #[.int .i64 t1, .int .i64 t2, .bool t3, .int .i64 t4] rfl rfl 37 #[.int .i64 0, .int .i64 0, .bool false, .int .i64 0] zz33 zz8 rfl zz17 ?_
     intro w5 hbox hu
     replace B_H := Aside0.mk (hu.blk zz26 NE_H_R.out)
     replace HU := Aside0.mk ((zz9 : Upd None0 w _).trans hu (fun k hk => .inr (by rw [hk]; exact GE_R.out)))
     clear hu
     clear B_R; have B_R := Aside0.mk hbox; clear hbox
     (try clear hc_R_0 hc_R_1 hc_R_2 hc_R_3 hc_H_0 hc_H_1 hc_H_2 hc_H_3)
     have hc_R_0 := co B_R 0 (.int .i64 t1) rfl; have hc_R_1 := co B_R 1 (.int .i64 t2) rfl; have hc_R_2 := co B_R 2 (.bool t3) rfl; have hc_R_3 := co B_R 3 (.int .i64 t4) rfl; have hc_H_0 := co B_H 0 (.int .i64 t1) rfl; have hc_H_1 := co B_H 1 (.int .i64 t2) rfl; have hc_H_2 := co B_H 2 (.bool t3) rfl; have hc_H_3 := co B_H 3 (.int .i64 t4) rfl))
 refine bodyPost_ret (results_ctt rfl _ _ g_R 37 #[.int .i64 t1, .int .i64 t2, .bool t3, .int .i64 t4] (0, 0) _ rfl zz33 Try.underlying37 rfl zz8) rfl ?_
 exact ⟨rfl, Upd.below0 zz9⟩
theorem gantletref07_Get.calls (k : Nat) (a0 : ByteArray) (a1 : Int) (r1 : Int) (r2 : Int) (r3 : Bool) (r4 : Int) (r5 : Int) (r6 : Int) (w : World) (h : gantletref07_Get.f k a0 a1 = some (r1, r2, r3, r4, r5, r6)) :
 Calls Try.prog 41 #[.string a0, .int .i64 a1] w fun e w' => e = .returned (.tuple #[.agg #[.int .i64 r1, .int .i64 r2, .bool r3, .int .i64 r4], .int .i64 r5, .int .i64 r6]) ∧ Below w.heap.size w w' := by
 unfold gantletref07_Get.f at h
 obtain ⟨⟨t1, t2, t3, t4, t5, t6⟩, h1, h⟩ := Option.bind_eq_some_iff.mp h
 simp only at h
 by_cases c : t6 = 0
 ·
  rw [if_pos c] at h
  obtain ⟨⟨t8, t9, t10⟩, h2, h⟩ := Option.bind_eq_some_iff.mp h
  simp only at h
  by_cases c2 : t10 = 0
  ·
   rw [if_pos c2] at h
   simp only [Option.some.injEq, Prod.mk.injEq] at h
   obtain ⟨rfl, rfl, rfl, rfl, rfl, rfl⟩ := h
   exact gantletref07_Get.ok k a0 a1 _ _ _ _ _ _ _ _ _ h1 c h2 c2 w
  ·
   rw [if_neg c2] at h
   simp only [Option.some.injEq, Prod.mk.injEq] at h
   obtain ⟨rfl, rfl, rfl, rfl, rfl, rfl⟩ := h
   exact gantletref07_Get.cut k a0 a1 _ _ _ _ _ _ _ _ _ h1 c h2 c2 w
 ·
  rw [if_neg c] at h
  simp only [Option.some.injEq, Prod.mk.injEq] at h
  obtain ⟨rfl, rfl, rfl, rfl, rfl, rfl⟩ := h
  exact gantletref07_Get.no k a0 a1 _ _ _ _ _ _ h1 c w
end Go.Proofs.Ytpfconocipmcjaa.PC
namespace Go.Proofs.Ytpfconocipmcjaa.PC
open RowKit YtpfconocipmcjaaW.PrintWords YtpfconocipmcjaaW.PrintLast YtpfconocipmcjaaW.PrintMore
attribute [local go_sem] max2_int min2_int max_two min_two max_three min_three max_four min_four
set_option linter.unusedVariables false
set_option linter.unusedSimpArgs false
def gantletref09_start.l0 : Nat → ByteArray → Int → Int → Int → Option (Int × Int × Bool × Int × Int × Int)
 | 0, _, _, _, _ => none
 | k + 1, x0, x1, x2, x9 => if x9 < (x0.size : Int) then (if x9 = x2 then (some (0, 0, false, 0, x9, 5)) else (if 0 ≤ (wrap64 (x9 + 1)) then (if (wrap64 (x9 + 1)) ≤ (x0.size : Int) then ((gantletref07_Get.f k (x0.extract 0 ((wrap64 (x9 + 1)) : Int).toNat) x1).bind fun bt109 => (if bt109.2.2.2.2.2 = 0 then (some (bt109.1, bt109.2.1, bt109.2.2.1, bt109.2.2.2.1, x9, 0)) else (if bt109.2.2.2.2.2 = 2 then (gantletref09_start.l0 k x0 x1 x2 (wrap64 (x9 + 1))) else (some (0, 0, false, 0, x9, bt109.2.2.2.2.2))))) else (none)) else (none))) else (some (0, 0, false, 0, (x0.size : Int), 2))
def gantletref09_start.f (k : Nat) (a0 : ByteArray) (a1 : Int) (a2 : Int) : Option (Int × Int × Bool × Int × Int × Int) := gantletref09_start.l0 k a0 a1 a2 a1
set_option maxHeartbeats 8000000 in
set_option maxRecDepth 100000 in
theorem gantletref09_start.calls (k : Nat) (a0 : ByteArray) (a1 : Int) (a2 : Int) (r1 : Int) (r2 : Int) (r3 : Bool) (r4 : Int) (r5 : Int) (r6 : Int) (w : World) (h : gantletref09_start.f k a0 a1 a2 = some (r1, r2, r3, r4, r5, r6)) :
 Calls Try.prog 26 #[.string a0, .int .i64 a1, .int .i64 a2] w fun e w' => e = .returned (.tuple #[.agg #[.int .i64 r1, .int .i64 r2, .bool r3, .int .i64 r4], .int .i64 r5, .int .i64 r6]) ∧ Below w.heap.size w w' := by
 have hu37 := Try.underlying37
 have HB := Aside0.mk (Below.refl w.heap.size w)
 have H : (gantletref09_start.l0 k a0 a1 a2 a1) = some (r1, r2, r3, r4, r5, r6) := h
 clear h
 have H' := Aside0.mk H
 clear H
 go_enter Try.func26, Try.ntmps26
 go_wp2_with (first | ((with_reducible refine gate_dst (N := 6) rfl ?_); refine zzbx (N := 6) (cs := #[.int .i64 0, .int .i64 0, .bool false, .int .i64 0]) (t := 37) ?_; intro gb108 hg w4 hbox hb; have n0_ := Aside0.mk (below_step zz2 hb); have n1_ := Aside0.mk (hbox); have n2_ := Aside0.mk ((by rw [hg]; exact (below_size zz2) : w.heap.size ≤ gb108)); have n3_ := n2_; clear HB; have HB := n0_; have BK108 := n1_; have GW108 := n2_; have GE108 := n3_; clear n0_ n1_ n2_ n3_; clear hb hbox hg))
 go_loopg [9] k (fun kq v9 w' => ∃ (x9_1 : Int) (x109000_1 : Int) (x109001_1 : Int) (x109002_1 : Bool) (x109003_1 : Int), v9 = .int .i64 x9_1 ∧ Aside0 (gantletref09_start.l0 kq a0 a1 a2 x9_1 = some (r1, r2, r3, r4, r5, r6)) ∧ Aside0 (kq ≤ k) ∧ Aside0 (w'.heap[gb108]? = some (.cells #[.int .i64 x109000_1, .int .i64 x109001_1, .bool x109002_1, .int .i64 x109003_1] 37 (0, 0))) ∧ Aside0 (Below w.heap.size w w'))
 case atStart => exact ⟨(a1), (0), (0), (false), (0), zz0, H', ⟨Nat.le_refl _⟩, ⟨zz23⟩, ⟨zz18⟩⟩
 case round =>
  clear H'
  obtain ⟨x9_1, x109000_1, x109001_1, x109002_1, x109003_1, rfl, HA, HK1, BK108, HB⟩ := hrel
  cases gk with
  | zero => exact absurd HA.out (by simp [gantletref09_start.l0])
  | succ k1 =>
    have H := HA.out
    clear HA
    simp only [gantletref09_start.l0] at H
    by_cases c5 : x9_1 < (a0.size : Int)
    ·
     rw [if_pos c5] at H
     have c5b0 := decide_eq_true c5
     clear c5
     by_cases c6 : x9_1 = a2
     ·
      rw [if_pos c6] at H
      have c6b0 := beq_iff_eq.mpr c6
      have c6b1 := bne_eq_false_iff_eq.mpr c6
      clear c6
      simp only [Option.some.injEq, Prod.mk.injEq] at H
      obtain ⟨rfl, rfl, rfl, rfl, rfl, rfl⟩ := H
      have hcz7_0 : wr.cell? ⟨gb108, 0, none⟩ = some (.int .i64 x109000_1) := (blk_cell BK108.out 0).trans rfl
      have hcz7_1 : wr.cell? ⟨gb108, 1, none⟩ = some (.int .i64 x109001_1) := (blk_cell BK108.out 1).trans rfl
      have hcz7_2 : wr.cell? ⟨gb108, 2, none⟩ = some (.bool x109002_1) := (blk_cell BK108.out 2).trans rfl
      have hcz7_3 : wr.cell? ⟨gb108, 3, none⟩ = some (.int .i64 x109003_1) := (blk_cell BK108.out 3).trans rfl
      have hfz7_0 := blk_frozen BK108.out 0
      have hfz7_1 := blk_frozen BK108.out 1
      have hfz7_2 := blk_frozen BK108.out 2
      have hfz7_3 := blk_frozen BK108.out 3
      go_wp2
      refine bodyPost_ret (results_ctt rfl _ _ gb108 37 #[.int .i64 0, .int .i64 0, .bool false, .int .i64 0] (0, 0) _ rfl (by (with_reducible repeat (first | refine blk_drewN ?_ _ | refine blk_drew ?_ | refine blk_alloc ?_ _)); refine blk_put (cs := #[.int .i64 0, .int .i64 0, .bool false, .int .i64 x109003_1]) ?_ 3 _ rfl; (with_reducible repeat (first | refine blk_drewN ?_ _ | refine blk_drew ?_ | refine blk_alloc ?_ _)); refine blk_put (cs := #[.int .i64 0, .int .i64 0, .bool x109002_1, .int .i64 x109003_1]) ?_ 2 _ rfl; (with_reducible repeat (first | refine blk_drewN ?_ _ | refine blk_drew ?_ | refine blk_alloc ?_ _)); refine blk_put (cs := #[.int .i64 0, .int .i64 x109001_1, .bool x109002_1, .int .i64 x109003_1]) ?_ 1 _ rfl; (with_reducible repeat (first | refine blk_drewN ?_ _ | refine blk_drew ?_ | refine blk_alloc ?_ _)); refine blk_put (cs := #[.int .i64 x109000_1, .int .i64 x109001_1, .bool x109002_1, .int .i64 x109003_1]) ?_ 0 _ rfl; (with_reducible repeat (first | refine blk_drewN ?_ _ | refine blk_drew ?_ | refine blk_alloc ?_ _)); exact BK108.out) Try.underlying37 rfl zz8) rfl ?_
      exact ⟨zz6, zz18⟩
     ·
      rw [if_neg c6] at H
      have c6b0 := beq_eq_false_iff_ne.mpr c6
      have c6b1 := bne_iff_ne.mpr c6
      obtain ⟨ji8, hji8⟩ : ∃ j_ : Int, (wrap64 (x9_1 + 1)) = j_ := ⟨_, rfl⟩
      replace H : (if 0 ≤ (ji8) then (if (ji8) ≤ (a0.size : Int) then ((gantletref07_Get.f k1 (a0.extract 0 ((ji8) : Int).toNat) a1).bind fun bt109 => (if bt109.2.2.2.2.2 = 0 then (some (bt109.1, bt109.2.1, bt109.2.2.1, bt109.2.2.2.1, x9_1, 0)) else (if bt109.2.2.2.2.2 = 2 then (gantletref09_start.l0 k1 a0 a1 a2 ji8) else (some (0, 0, false, 0, x9_1, bt109.2.2.2.2.2))))) else (none)) else (none)) = some (r1, r2, r3, r4, r5, r6) := by first | (rw [hji8] at H; exact H) | (simp only [hji8] at H ⊢; exact H)
      have hji8w : (IntKind.i64.wrap (x9_1 + 1)) = ji8 := (i64_w _).trans hji8
      by_cases c9 : 0 ≤ (ji8)
      ·
       rw [if_pos c9] at H
       have c9b0 := eq_true c9
       have c9b1 := decide_eq_true c9
       clear c9
       by_cases c10 : (ji8) ≤ (a0.size : Int)
       ·
        rw [if_pos c10] at H
        have c10b0 := eq_true c10
        have c10b1 := decide_eq_true c10
        clear c10
        replace H := Option.bind_eq_some_iff.mp H
        obtain ⟨⟨t109, t110, t111, t112, t113, t114⟩, A110, H⟩ := H
        replace H : (if t114 = 0 then (some (t109, t110, t111, t112, x9_1, 0)) else (if t114 = 2 then (gantletref09_start.l0 k1 a0 a1 a2 ji8) else (some (0, 0, false, 0, x9_1, t114)))) = some (r1, r2, r3, r4, r5, r6) := H
        have A11 := Aside0.mk A110
        clear A110
        by_cases c12 : t114 = 0
        ·
         rw [if_pos c12] at H
         have c12b0 := beq_iff_eq.mpr c12
         have c12b1 := bne_eq_false_iff_eq.mpr c12
         clear c12
         simp only [Option.some.injEq, Prod.mk.injEq] at H
         obtain ⟨rfl, rfl, rfl, rfl, rfl, rfl⟩ := H
         go_wp2_with (first | ((with_reducible refine gate_callee (f := 41) rfl ?_); refine goesL_ (some 31) rfl rfl Try.func41 zz8 rfl #[.string (a0.extract 0 ((ji8) : Int).toNat), .int .i64 a1] rfl zz47 ?_; (with_reducible refine (gantletref07_Get.calls k1 (a0.extract 0 ((ji8) : Int).toNat) a1 t109 t110 t111 t112 t113 t114 _ A11.out).mono ?_); rintro e w13 ⟨rfl, hb⟩; refine ⟨_, rfl, ?_⟩; have n0_ := Aside0.mk (blk_below (g := gb108) (o := .cells #[.int .i64 x109000_1, .int .i64 x109001_1, .bool x109002_1, .int .i64 x109003_1] 37 (0, 0)) zz23 hb); have n1_ := Aside0.mk (below_step zz18 hb); clear BK108; clear HB; have BK108 := n0_; have HB := n1_; clear n0_ n1_; (try clear hb); (try clear hb2); (try clear hk); (try clear hi)) | ((with_reducible refine gate_dst (N := 10) rfl ?_); refine zzbx (N := 10) (cs := #[.int .i64 0, .int .i64 0, .bool false, .int .i64 0]) (t := 37) ?_; intro gb115 hg w14 hbox hb; have n0_ := Aside0.mk (blk_below (g := gb108) (o := .cells #[.int .i64 x109000_1, .int .i64 x109001_1, .bool x109002_1, .int .i64 x109003_1] 37 (0, 0)) zz23 hb); have n1_ := Aside0.mk (below_step zz18 hb); have n2_ := Aside0.mk (hbox); have n3_ := Aside0.mk ((by rw [hg]; exact (below_size zz18) : w.heap.size ≤ gb115)); have n4_ := n3_; have n5_ := Aside0.mk ((zz48 : gb108 ≠ gb115)); have n6_ := Aside0.mk ((zz49 : gb115 ≠ gb108)); clear BK108; clear HB; have BK108 := n0_; have HB := n1_; have BK115 := n2_; have GW115 := n3_; have GE115 := n4_; have NB108_115 := n5_; have NB115_108 := n6_; clear n0_ n1_ n2_ n3_ n4_ n5_ n6_; clear hb hbox hg; have hnb15 := NB115_108.out; have hnc15 := NB108_115.out; have hcz16_0 : w14.cell? ⟨gb115, 0, none⟩ = some (.int .i64 0) := (blk_cell BK115.out 0).trans rfl; have hcz16_1 : w14.cell? ⟨gb115, 1, none⟩ = some (.int .i64 0) := (blk_cell BK115.out 1).trans rfl; have hcz16_2 : w14.cell? ⟨gb115, 2, none⟩ = some (.bool false) := (blk_cell BK115.out 2).trans rfl; have hcz16_3 : w14.cell? ⟨gb115, 3, none⟩ = some (.int .i64 0) := (blk_cell BK115.out 3).trans rfl; have hfz16_0 := blk_frozen BK115.out 0; have hfz16_1 := blk_frozen BK115.out 1; have hfz16_2 := blk_frozen BK115.out 2; have hfz16_3 := blk_frozen BK115.out 3; have hcz17_0 : w14.cell? ⟨gb108, 0, none⟩ = some (.int .i64 x109000_1) := (blk_cell BK108.out 0).trans rfl; have hcz17_1 : w14.cell? ⟨gb108, 1, none⟩ = some (.int .i64 x109001_1) := (blk_cell BK108.out 1).trans rfl; have hcz17_2 : w14.cell? ⟨gb108, 2, none⟩ = some (.bool x109002_1) := (blk_cell BK108.out 2).trans rfl; have hcz17_3 : w14.cell? ⟨gb108, 3, none⟩ = some (.int .i64 x109003_1) := (blk_cell BK108.out 3).trans rfl; have hfz17_0 := blk_frozen BK108.out 0; have hfz17_1 := blk_frozen BK108.out 1; have hfz17_2 := blk_frozen BK108.out 2; have hfz17_3 := blk_frozen BK108.out 3))
         refine bodyPost_ret (results_ctt rfl _ _ gb108 37 #[.int .i64 t109, .int .i64 t110, .bool t111, .int .i64 t112] (0, 0) _ rfl (by (with_reducible repeat (first | refine blk_drewN ?_ _ | refine blk_drew ?_ | refine blk_alloc ?_ _)); refine blk_put (cs := #[.int .i64 t109, .int .i64 t110, .bool t111, .int .i64 x109003_1]) ?_ 3 _ rfl; (with_reducible repeat (first | refine blk_drewN ?_ _ | refine blk_drew ?_ | refine blk_alloc ?_ _)); refine blk_put (cs := #[.int .i64 t109, .int .i64 t110, .bool x109002_1, .int .i64 x109003_1]) ?_ 2 _ rfl; (with_reducible repeat (first | refine blk_drewN ?_ _ | refine blk_drew ?_ | refine blk_alloc ?_ _)); refine blk_put (cs := #[.int .i64 t109, .int .i64 x109001_1, .bool x109002_1, .int .i64 x109003_1]) ?_ 1 _ rfl; (with_reducible repeat (first | refine blk_drewN ?_ _ | refine blk_drew ?_ | refine blk_alloc ?_ _)); refine blk_put (cs := #[.int .i64 x109000_1, .int .i64 x109001_1, .bool x109002_1, .int .i64 x109003_1]) ?_ 0 _ rfl; (with_reducible repeat (first | refine blk_drewN ?_ _ | refine blk_drew ?_ | refine blk_alloc ?_ _)); refine blk_far ?_ NB108_115.out _; (with_reducible repeat (first | refine blk_drewN ?_ _ | refine blk_drew ?_ | refine blk_alloc ?_ _)); refine blk_far ?_ NB108_115.out _; (with_reducible repeat (first | refine blk_drewN ?_ _ | refine blk_drew ?_ | refine blk_alloc ?_ _)); refine blk_far ?_ NB108_115.out _; (with_reducible repeat (first | refine blk_drewN ?_ _ | refine blk_drew ?_ | refine blk_alloc ?_ _)); refine blk_far ?_ NB108_115.out _; (with_reducible repeat (first | refine blk_drewN ?_ _ | refine blk_drew ?_ | refine blk_alloc ?_ _)); exact BK108.out) Try.underlying37 rfl zz8) rfl ?_
         exact ⟨by first | rfl | (simp [errW_none, errW_some] <;> rfl) | (simp only [← hji8]; first | rfl | (simp [errW_none, errW_some] <;> rfl)) | (simp [*, errW_none, errW_some] <;> rfl), zz42⟩
        ·
         rw [if_neg c12] at H
         have c12b0 := beq_eq_false_iff_ne.mpr c12
         have c12b1 := bne_iff_ne.mpr c12
         by_cases c18 : t114 = 2
         ·
          rw [if_pos c18] at H
          have c18b0 := beq_iff_eq.mpr c18
          have c18b1 := bne_eq_false_iff_eq.mpr c18
          clear c18
          have H' := Aside0.mk H
          clear H
          go_wp2_with (first | ((with_reducible refine gate_callee (f := 41) rfl ?_); refine goesL_ (some 31) rfl rfl Try.func41 zz8 rfl #[.string (a0.extract 0 ((ji8) : Int).toNat), .int .i64 a1] rfl zz47 ?_; (with_reducible refine (gantletref07_Get.calls k1 (a0.extract 0 ((ji8) : Int).toNat) a1 t109 t110 t111 t112 t113 t114 _ A11.out).mono ?_); rintro e w19 ⟨rfl, hb⟩; refine ⟨_, rfl, ?_⟩; have n0_ := Aside0.mk (blk_below (g := gb108) (o := .cells #[.int .i64 x109000_1, .int .i64 x109001_1, .bool x109002_1, .int .i64 x109003_1] 37 (0, 0)) zz23 hb); have n1_ := Aside0.mk (below_step zz18 hb); clear BK108; clear HB; have BK108 := n0_; have HB := n1_; clear n0_ n1_; (try clear hb); (try clear hb2); (try clear hk); (try clear hi)) | ((with_reducible refine gate_dst (N := 10) rfl ?_); refine zzbx (N := 10) (cs := #[.int .i64 0, .int .i64 0, .bool false, .int .i64 0]) (t := 37) ?_; intro gb115 hg w20 hbox hb; have n0_ := Aside0.mk (blk_below (g := gb108) (o := .cells #[.int .i64 x109000_1, .int .i64 x109001_1, .bool x109002_1, .int .i64 x109003_1] 37 (0, 0)) zz23 hb); have n1_ := Aside0.mk (below_step zz18 hb); have n2_ := Aside0.mk (hbox); have n3_ := Aside0.mk ((by rw [hg]; exact (below_size zz18) : w.heap.size ≤ gb115)); have n4_ := n3_; have n5_ := Aside0.mk ((zz48 : gb108 ≠ gb115)); have n6_ := Aside0.mk ((zz49 : gb115 ≠ gb108)); clear BK108; clear HB; have BK108 := n0_; have HB := n1_; have BK115 := n2_; have GW115 := n3_; have GE115 := n4_; have NB108_115 := n5_; have NB115_108 := n6_; clear n0_ n1_ n2_ n3_ n4_ n5_ n6_; clear hb hbox hg; have hnb21 := NB115_108.out; have hnc21 := NB108_115.out; have hcz22_0 : w20.cell? ⟨gb115, 0, none⟩ = some (.int .i64 0) := (blk_cell BK115.out 0).trans rfl; have hcz22_1 : w20.cell? ⟨gb115, 1, none⟩ = some (.int .i64 0) := (blk_cell BK115.out 1).trans rfl; have hcz22_2 : w20.cell? ⟨gb115, 2, none⟩ = some (.bool false) := (blk_cell BK115.out 2).trans rfl; have hcz22_3 : w20.cell? ⟨gb115, 3, none⟩ = some (.int .i64 0) := (blk_cell BK115.out 3).trans rfl; have hfz22_0 := blk_frozen BK115.out 0; have hfz22_1 := blk_frozen BK115.out 1; have hfz22_2 := blk_frozen BK115.out 2; have hfz22_3 := blk_frozen BK115.out 3))
          go_roundg k1
          case measure => have := HK1.out; omega
          case rel => exact ⟨(ji8), (x109000_1), (x109001_1), (x109002_1), (x109003_1), (by first | rfl | (simp; done) | (simp only [← hji8] <;> (first | rfl | simp)) | (simp [*]; done)), H', ⟨zz59⟩, ⟨by (with_reducible repeat (first | refine blk_drewN ?_ _ | refine blk_drew ?_ | refine blk_alloc ?_ _)); refine blk_far ?_ NB108_115.out _; (with_reducible repeat (first | refine blk_drewN ?_ _ | refine blk_drew ?_ | refine blk_alloc ?_ _)); refine blk_far ?_ NB108_115.out _; (with_reducible repeat (first | refine blk_drewN ?_ _ | refine blk_drew ?_ | refine blk_alloc ?_ _)); refine blk_far ?_ NB108_115.out _; (with_reducible repeat (first | refine blk_drewN ?_ _ | refine blk_drew ?_ | refine blk_alloc ?_ _)); refine blk_far ?_ NB108_115.out _; (with_reducible repeat (first | refine blk_drewN ?_ _ | refine blk_drew ?_ | refine blk_alloc ?_ _)); exact BK108.out⟩, ⟨zz42⟩⟩
         ·
          rw [if_neg c18] at H
          have c18b0 := beq_eq_false_iff_ne.mpr c18
          have c18b1 := bne_iff_ne.mpr c18
          simp only [Option.some.injEq, Prod.mk.injEq] at H
          obtain ⟨rfl, rfl, rfl, rfl, rfl, rfl⟩ := H
          go_wp2_with (first | ((with_reducible refine gate_callee (f := 41) rfl ?_); refine goesL_ (some 31) rfl rfl Try.func41 zz8 rfl #[.string (a0.extract 0 ((ji8) : Int).toNat), .int .i64 a1] rfl zz47 ?_; (with_reducible refine (gantletref07_Get.calls k1 (a0.extract 0 ((ji8) : Int).toNat) a1 t109 t110 t111 t112 t113 t114 _ A11.out).mono ?_); rintro e w23 ⟨rfl, hb⟩; refine ⟨_, rfl, ?_⟩; have n0_ := Aside0.mk (blk_below (g := gb108) (o := .cells #[.int .i64 x109000_1, .int .i64 x109001_1, .bool x109002_1, .int .i64 x109003_1] 37 (0, 0)) zz23 hb); have n1_ := Aside0.mk (below_step zz18 hb); clear BK108; clear HB; have BK108 := n0_; have HB := n1_; clear n0_ n1_; (try clear hb); (try clear hb2); (try clear hk); (try clear hi)) | ((with_reducible refine gate_dst (N := 10) rfl ?_); refine zzbx (N := 10) (cs := #[.int .i64 0, .int .i64 0, .bool false, .int .i64 0]) (t := 37) ?_; intro gb115 hg w24 hbox hb; have n0_ := Aside0.mk (blk_below (g := gb108) (o := .cells #[.int .i64 x109000_1, .int .i64 x109001_1, .bool x109002_1, .int .i64 x109003_1] 37 (0, 0)) zz23 hb); have n1_ := Aside0.mk (below_step zz18 hb); have n2_ := Aside0.mk (hbox); have n3_ := Aside0.mk ((by rw [hg]; exact (below_size zz18) : w.heap.size ≤ gb115)); have n4_ := n3_; have n5_ := Aside0.mk ((zz48 : gb108 ≠ gb115)); have n6_ := Aside0.mk ((zz49 : gb115 ≠ gb108)); clear BK108; clear HB; have BK108 := n0_; have HB := n1_; have BK115 := n2_; have GW115 := n3_; have GE115 := n4_; have NB108_115 := n5_; have NB115_108 := n6_; clear n0_ n1_ n2_ n3_ n4_ n5_ n6_; clear hb hbox hg; have hnb25 := NB115_108.out; have hnc25 := NB108_115.out; have hcz26_0 : w24.cell? ⟨gb115, 0, none⟩ = some (.int .i64 0) := (blk_cell BK115.out 0).trans rfl; have hcz26_1 : w24.cell? ⟨gb115, 1, none⟩ = some (.int .i64 0) := (blk_cell BK115.out 1).trans rfl; have hcz26_2 : w24.cell? ⟨gb115, 2, none⟩ = some (.bool false) := (blk_cell BK115.out 2).trans rfl; have hcz26_3 : w24.cell? ⟨gb115, 3, none⟩ = some (.int .i64 0) := (blk_cell BK115.out 3).trans rfl; have hfz26_0 := blk_frozen BK115.out 0; have hfz26_1 := blk_frozen BK115.out 1; have hfz26_2 := blk_frozen BK115.out 2; have hfz26_3 := blk_frozen BK115.out 3; have hcz27_0 : w24.cell? ⟨gb108, 0, none⟩ = some (.int .i64 x109000_1) := (blk_cell BK108.out 0).trans rfl; have hcz27_1 : w24.cell? ⟨gb108, 1, none⟩ = some (.int .i64 x109001_1) := (blk_cell BK108.out 1).trans rfl; have hcz27_2 : w24.cell? ⟨gb108, 2, none⟩ = some (.bool x109002_1) := (blk_cell BK108.out 2).trans rfl; have hcz27_3 : w24.cell? ⟨gb108, 3, none⟩ = some (.int .i64 x109003_1) := (blk_cell BK108.out 3).trans rfl; have hfz27_0 := blk_frozen BK108.out 0; have hfz27_1 := blk_frozen BK108.out 1; have hfz27_2 := blk_frozen BK108.out 2; have hfz27_3 := blk_frozen BK108.out 3))
          refine bodyPost_ret (results_ctt rfl _ _ gb108 37 #[.int .i64 0, .int .i64 0, .bool false, .int .i64 0] (0, 0) _ rfl (by (with_reducible repeat (first | refine blk_drewN ?_ _ | refine blk_drew ?_ | refine blk_alloc ?_ _)); refine blk_put (cs := #[.int .i64 0, .int .i64 0, .bool false, .int .i64 x109003_1]) ?_ 3 _ rfl; (with_reducible repeat (first | refine blk_drewN ?_ _ | refine blk_drew ?_ | refine blk_alloc ?_ _)); refine blk_put (cs := #[.int .i64 0, .int .i64 0, .bool x109002_1, .int .i64 x109003_1]) ?_ 2 _ rfl; (with_reducible repeat (first | refine blk_drewN ?_ _ | refine blk_drew ?_ | refine blk_alloc ?_ _)); refine blk_put (cs := #[.int .i64 0, .int .i64 x109001_1, .bool x109002_1, .int .i64 x109003_1]) ?_ 1 _ rfl; (with_reducible repeat (first | refine blk_drewN ?_ _ | refine blk_drew ?_ | refine blk_alloc ?_ _)); refine blk_put (cs := #[.int .i64 x109000_1, .int .i64 x109001_1, .bool x109002_1, .int .i64 x109003_1]) ?_ 0 _ rfl; (with_reducible repeat (first | refine blk_drewN ?_ _ | refine blk_drew ?_ | refine blk_alloc ?_ _)); refine blk_far ?_ NB108_115.out _; (with_reducible repeat (first | refine blk_drewN ?_ _ | refine blk_drew ?_ | refine blk_alloc ?_ _)); refine blk_far ?_ NB108_115.out _; (with_reducible repeat (first | refine blk_drewN ?_ _ | refine blk_drew ?_ | refine blk_alloc ?_ _)); refine blk_far ?_ NB108_115.out _; (with_reducible repeat (first | refine blk_drewN ?_ _ | refine blk_drew ?_ | refine blk_alloc ?_ _)); refine blk_far ?_ NB108_115.out _; (with_reducible repeat (first | refine blk_drewN ?_ _ | refine blk_drew ?_ | refine blk_alloc ?_ _)); exact BK108.out) Try.underlying37 rfl zz8) rfl ?_
          exact ⟨by first | rfl | (simp [errW_none, errW_some] <;> rfl) | (simp only [← hji8]; first | rfl | (simp [errW_none, errW_some] <;> rfl)) | (simp [*, errW_none, errW_some] <;> rfl), zz42⟩
       ·
        rw [if_neg c10] at H
        exact absurd H zz29
      ·
       rw [if_neg c9] at H
       exact absurd H zz29
    ·
     rw [if_neg c5] at H
     have c5b0 := decide_eq_false c5
     clear c5
     simp only [Option.some.injEq, Prod.mk.injEq] at H
     obtain ⟨rfl, rfl, rfl, rfl, rfl, rfl⟩ := H
     have hcz28_0 : wr.cell? ⟨gb108, 0, none⟩ = some (.int .i64 x109000_1) := (blk_cell BK108.out 0).trans rfl
     have hcz28_1 : wr.cell? ⟨gb108, 1, none⟩ = some (.int .i64 x109001_1) := (blk_cell BK108.out 1).trans rfl
     have hcz28_2 : wr.cell? ⟨gb108, 2, none⟩ = some (.bool x109002_1) := (blk_cell BK108.out 2).trans rfl
     have hcz28_3 : wr.cell? ⟨gb108, 3, none⟩ = some (.int .i64 x109003_1) := (blk_cell BK108.out 3).trans rfl
     have hfz28_0 := blk_frozen BK108.out 0
     have hfz28_1 := blk_frozen BK108.out 1
     have hfz28_2 := blk_frozen BK108.out 2
     have hfz28_3 := blk_frozen BK108.out 3
     go_wp2
     refine bodyPost_ret (results_ctt rfl _ _ gb108 37 #[.int .i64 0, .int .i64 0, .bool false, .int .i64 0] (0, 0) _ rfl (by (with_reducible repeat (first | refine blk_drewN ?_ _ | refine blk_drew ?_ | refine blk_alloc ?_ _)); refine blk_put (cs := #[.int .i64 0, .int .i64 0, .bool false, .int .i64 x109003_1]) ?_ 3 _ rfl; (with_reducible repeat (first | refine blk_drewN ?_ _ | refine blk_drew ?_ | refine blk_alloc ?_ _)); refine blk_put (cs := #[.int .i64 0, .int .i64 0, .bool x109002_1, .int .i64 x109003_1]) ?_ 2 _ rfl; (with_reducible repeat (first | refine blk_drewN ?_ _ | refine blk_drew ?_ | refine blk_alloc ?_ _)); refine blk_put (cs := #[.int .i64 0, .int .i64 x109001_1, .bool x109002_1, .int .i64 x109003_1]) ?_ 1 _ rfl; (with_reducible repeat (first | refine blk_drewN ?_ _ | refine blk_drew ?_ | refine blk_alloc ?_ _)); refine blk_put (cs := #[.int .i64 x109000_1, .int .i64 x109001_1, .bool x109002_1, .int .i64 x109003_1]) ?_ 0 _ rfl; (with_reducible repeat (first | refine blk_drewN ?_ _ | refine blk_drew ?_ | refine blk_alloc ?_ _)); exact BK108.out) Try.underlying37 rfl zz8) rfl ?_
     exact ⟨zz6, zz18⟩
end Go.Proofs.Ytpfconocipmcjaa.PC
