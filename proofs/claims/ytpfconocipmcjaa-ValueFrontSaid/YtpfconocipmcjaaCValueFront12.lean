/- What the row of ValueFront stands on, made small by a program of this session (pack.py). -/
import Derived.Test.YtpfconocipmcjaaCValueFront2
import Derived.Test.YtpfconocipmcjaaCValueFront4
import Derived.Test.YtpfconocipmcjaaCValueFront11
namespace Go.Proofs.Ytpfconocipmcjaa.PC
open Go.RowKit Go.Proofs.YtpfconocipmcjaaW.PrintWords Go.Proofs.YtpfconocipmcjaaW.PrintLast Go.Proofs.YtpfconocipmcjaaW.PrintMore
attribute [local go_sem] max2_int min2_int max_two min_two max_three min_three max_four min_four
set_option linter.unusedVariables false
set_option linter.unusedSimpArgs false
open Go.Proofs.Ytpfconocipmcjaa.Own
def head_Get.f (k : Nat) (a0 : ByteArray) (a1 : Int) : Option (Int × Int × Bool × Int × Int × Int) := (ident_Get.f k a0 a1).bind fun bt181 => (if bt181.2.2.2.2.2 = 0 then ((length_Get.f k a0 bt181.2.2.2.2.1).bind fun bt188 => (if bt188.2.2 = 0 then (some (bt181.1, bt181.2.1, bt181.2.2.1, bt188.1, bt188.2.1, 0)) else (some (0, 0, false, 0, bt188.2.1, bt188.2.2)))) else (some (0, 0, false, 0, bt181.2.2.2.2.1, bt181.2.2.2.2.2)))
set_option maxHeartbeats 4000000 in
set_option maxRecDepth 100000 in
theorem head_Get.ok (k : Nat) (a0 : ByteArray) (a1 t1 t2 : Int) (t3 : Bool) (t4 t5 t6 : Int) (t8 t9 t10 : Int) (h1 : ident_Get.f k a0 a1 = some (t1, t2, t3, t4, t5, t6)) (h0 : t6 = 0) (h2 : length_Get.f k a0 t5 = some (t8, t9, t10)) (h3 : t10 = 0) (w : World) :
 Calls Try.prog 72 #[.string a0, .int .i64 a1] w fun e w' => e = .returned (.tuple #[.agg #[.int .i64 t1, .int .i64 t2, .bool t3, .int .i64 t8], .int .i64 t9, .int .i64 0]) ∧ Below w.heap.size w w' := by
 have HU := Aside0.mk (Upd.refl None0 w)
 have A3 := Aside0.mk h1
 have hu_ := Try.underlying37
 have A5 := Aside0.mk h2
 subst h0 h3
 clear h1 h2
 go_enter Try.func72, Try.ntmps72
 go_wp2_with (first
  | ((with_reducible refine gate_dst (N := 4) rfl ?_)
     refine boxnew ?hg (N := 4) ?hd (cs := #[.int .i64 0, .int .i64 0, .bool false, .int .i64 0]) (t := 37) ?hr ?_; (case hd => rfl); (case hg => rfl); (case hr => first | (go_simp; done) | (go_simp; rfl))
     intro g_R hge w1 hbox hu
     have GE_R := Aside0.mk (Nat.le_trans (zz25 : Upd None0 w _).size hge)
     replace HU := Aside0.mk ((zz25 : Upd None0 w _).trans hu (fun _ h => h.elim))
     clear hu
     have B_R := Aside0.mk hbox; clear hbox hge
     have hc_R_0 := co B_R 0 (.int .i64 0) rfl; have hc_R_1 := co B_R 1 (.int .i64 0) rfl; have hc_R_2 := co B_R 2 (.bool false) rfl; have hc_R_3 := co B_R 3 (.int .i64 0) rfl)
  | (go_at_call 78
     (with_reducible refine (ident_Get.calls k a0 a1 t1 t2 t3 t4 t5 0 _ A3.out).mono ?_)
     rintro e w2 ⟨rfl, hb⟩
     have hu := (Upd.of_below hb : Upd None0 _ _)
     replace B_R := Aside0.mk (hu.blk zz54 (fun h => h))
     replace HU := Aside0.mk ((zz25 : Upd None0 w _).trans hu (fun _ h => h.elim))
     clear hu
     (try clear hc_R_0 hc_R_1 hc_R_2 hc_R_3)
     have hc_R_0 := co B_R 0 (.int .i64 0) rfl; have hc_R_1 := co B_R 1 (.int .i64 0) rfl; have hc_R_2 := co B_R 2 (.bool false) rfl; have hc_R_3 := co B_R 3 (.int .i64 0) rfl)
  | ((with_reducible refine gate_dst (N := 7) rfl ?_)
     refine boxnew ?hg (N := 7) ?hd (cs := #[.int .i64 0, .int .i64 0, .bool false, .int .i64 0]) (t := 37) ?hr ?_; (case hd => rfl); (case hg => rfl); (case hr => first | (go_simp; done) | (go_simp; rfl))
     intro g_H hge w3 hbox hu
     have NE_H_R := Aside0.mk (Ne.symm (blk_fresh zz54 hge))
     have GE_H := Aside0.mk (Nat.le_trans (zz25 : Upd None0 w _).size hge)
     replace B_R := Aside0.mk (hu.blk zz54 (fun h => h))
     replace HU := Aside0.mk ((zz25 : Upd None0 w _).trans hu (fun _ h => h.elim))
     clear hu
     have B_H := Aside0.mk hbox; clear hbox hge
     (try clear hc_R_0 hc_R_1 hc_R_2 hc_R_3)
     have hc_R_0 := co B_R 0 (.int .i64 0) rfl; have hc_R_1 := co B_R 1 (.int .i64 0) rfl; have hc_R_2 := co B_R 2 (.bool false) rfl; have hc_R_3 := co B_R 3 (.int .i64 0) rfl; have hc_H_0 := co B_H 0 (.int .i64 0) rfl; have hc_H_1 := co B_H 1 (.int .i64 0) rfl; have hc_H_2 := co B_H 2 (.bool false) rfl; have hc_H_3 := co B_H 3 (.int .i64 0) rfl)
  | ((with_reducible refine gate_store (t := 37) (p := 7) (v := .tmp 15) rfl ?_)
     refine rowput rfl 37 (.tmp 7) (.tmp 15) rfl rfl g_H #[.int .i64 t1, .int .i64 t2, .bool t3, .int .i64 t4] rfl rfl 37 #[.int .i64 0, .int .i64 0, .bool false, .int .i64 0] zz50 zz23 rfl zz70 ?_
     intro w4 hbox hu
     replace B_R := Aside0.mk (hu.blk zz54 (Ne.symm NE_H_R.out))
     replace HU := Aside0.mk ((zz25 : Upd None0 w _).trans hu (fun k hk => .inr zz83))
     clear hu
     clear B_H; have B_H := Aside0.mk hbox; clear hbox
     (try clear hc_R_0 hc_R_1 hc_R_2 hc_R_3 hc_H_0 hc_H_1 hc_H_2 hc_H_3)
     have hc_R_0 := co B_R 0 (.int .i64 0) rfl; have hc_R_1 := co B_R 1 (.int .i64 0) rfl; have hc_R_2 := co B_R 2 (.bool false) rfl; have hc_R_3 := co B_R 3 (.int .i64 0) rfl; have hc_H_0 := co B_H 0 (.int .i64 t1) rfl; have hc_H_1 := co B_H 1 (.int .i64 t2) rfl; have hc_H_2 := co B_H 2 (.bool t3) rfl; have hc_H_3 := co B_H 3 (.int .i64 t4) rfl)
  | (go_at_call 79
     (with_reducible refine (length_Get.calls k a0 t5 t8 t9 0 _ A5.out).mono ?_)
     rintro e w5 ⟨rfl, hb⟩
     have hu := (Upd.of_below hb.below : Upd None0 _ _)
     replace B_R := Aside0.mk (hu.blk zz54 (fun h => h))
     replace B_H := Aside0.mk (hu.blk zz50 (fun h => h))
     replace HU := Aside0.mk ((zz25 : Upd None0 w _).trans hu (fun _ h => h.elim))
     clear hu
     (try clear hc_R_0 hc_R_1 hc_R_2 hc_R_3 hc_H_0 hc_H_1 hc_H_2 hc_H_3)
     have hc_R_0 := co B_R 0 (.int .i64 0) rfl; have hc_R_1 := co B_R 1 (.int .i64 0) rfl; have hc_R_2 := co B_R 2 (.bool false) rfl; have hc_R_3 := co B_R 3 (.int .i64 0) rfl; have hc_H_0 := co B_H 0 (.int .i64 t1) rfl; have hc_H_1 := co B_H 1 (.int .i64 t2) rfl; have hc_H_2 := co B_H 2 (.bool t3) rfl; have hc_H_3 := co B_H 3 (.int .i64 t4) rfl)
  | ((with_reducible refine gate_store (t := 3) (p := 36) (v := .tmp 35) rfl ?_)
     refine cellput rfl 3 (.tmp 36) (.tmp 35) rfl rfl g_H 3 (.int .i64 t8) rfl rfl 37 #[.int .i64 t1, .int .i64 t2, .bool t3, .int .i64 t4] #[.int .i64 t1, .int .i64 t2, .bool t3, .int .i64 t8] zz50 zz23 zz56 rfl rfl ?_
     intro w6 hbox hu
     replace B_R := Aside0.mk (hu.blk zz54 (Ne.symm NE_H_R.out))
     replace HU := Aside0.mk ((zz25 : Upd None0 w _).trans hu (fun k hk => .inr zz83))
     clear hu
     clear B_H; have B_H := Aside0.mk hbox; clear hbox
     (try clear hc_R_0 hc_R_1 hc_R_2 hc_R_3 hc_H_0 hc_H_1 hc_H_2 hc_H_3)
     have hc_R_0 := co B_R 0 (.int .i64 0) rfl; have hc_R_1 := co B_R 1 (.int .i64 0) rfl; have hc_R_2 := co B_R 2 (.bool false) rfl; have hc_R_3 := co B_R 3 (.int .i64 0) rfl; have hc_H_0 := co B_H 0 (.int .i64 t1) rfl; have hc_H_1 := co B_H 1 (.int .i64 t2) rfl; have hc_H_2 := co B_H 2 (.bool t3) rfl; have hc_H_3 := co B_H 3 (.int .i64 t8) rfl)
  | ((with_reducible refine gate_store (t := 37) (p := 4) (v := .tmp 37) rfl ?_)
     refine rowput rfl 37 (.tmp 4) (.tmp 37) rfl rfl g_R #[.int .i64 t1, .int .i64 t2, .bool t3, .int .i64 t8] rfl rfl 37 #[.int .i64 0, .int .i64 0, .bool false, .int .i64 0] zz54 zz23 rfl zz70 ?_
     intro w7 hbox hu
     replace B_H := Aside0.mk (hu.blk zz50 NE_H_R.out)
     replace HU := Aside0.mk ((zz25 : Upd None0 w _).trans hu (fun k hk => .inr (by rw [hk]; exact GE_R.out)))
     clear hu
     clear B_R; have B_R := Aside0.mk hbox; clear hbox
     (try clear hc_R_0 hc_R_1 hc_R_2 hc_R_3 hc_H_0 hc_H_1 hc_H_2 hc_H_3)
     have hc_R_0 := co B_R 0 (.int .i64 t1) rfl; have hc_R_1 := co B_R 1 (.int .i64 t2) rfl; have hc_R_2 := co B_R 2 (.bool t3) rfl; have hc_R_3 := co B_R 3 (.int .i64 t8) rfl; have hc_H_0 := co B_H 0 (.int .i64 t1) rfl; have hc_H_1 := co B_H 1 (.int .i64 t2) rfl; have hc_H_2 := co B_H 2 (.bool t3) rfl; have hc_H_3 := co B_H 3 (.int .i64 t8) rfl))
 refine bodyPost_ret (results_ctt rfl _ _ g_R 37 #[.int .i64 t1, .int .i64 t2, .bool t3, .int .i64 t8] (0, 0) _ rfl zz54 Try.underlying37 rfl zz23) rfl ?_
 exact ⟨rfl, Upd.below0 zz25⟩
set_option maxHeartbeats 4000000 in
set_option maxRecDepth 100000 in
theorem head_Get.cut (k : Nat) (a0 : ByteArray) (a1 t1 t2 : Int) (t3 : Bool) (t4 t5 t6 : Int) (t8 t9 t10 : Int) (h1 : ident_Get.f k a0 a1 = some (t1, t2, t3, t4, t5, t6)) (h0 : t6 = 0) (h2 : length_Get.f k a0 t5 = some (t8, t9, t10)) (h3 : t10 ≠ 0) (w : World) :
 Calls Try.prog 72 #[.string a0, .int .i64 a1] w fun e w' => e = .returned (.tuple #[.agg #[.int .i64 0, .int .i64 0, .bool false, .int .i64 0], .int .i64 t9, .int .i64 t10]) ∧ Below w.heap.size w w' := by
 have HU := Aside0.mk (Upd.refl None0 w)
 have A3 := Aside0.mk h1
 have hu_ := Try.underlying37
 have A5 := Aside0.mk h2
 subst h0
 have c1 : (t10 != 0) = true := bne_iff_ne.2 h3
 clear h1 h2
 go_enter Try.func72, Try.ntmps72
 go_wp2_with (first
  | ((with_reducible refine gate_dst (N := 4) rfl ?_)
     refine boxnew ?hg (N := 4) ?hd (cs := #[.int .i64 0, .int .i64 0, .bool false, .int .i64 0]) (t := 37) ?hr ?_; (case hd => rfl); (case hg => rfl); (case hr => first | (go_simp; done) | (go_simp; rfl))
     intro g_R hge w1 hbox hu
     have GE_R := Aside0.mk (Nat.le_trans (zz25 : Upd None0 w _).size hge)
     replace HU := Aside0.mk ((zz25 : Upd None0 w _).trans hu (fun _ h => h.elim))
     clear hu
     have B_R := Aside0.mk hbox; clear hbox hge
     have hc_R_0 := co B_R 0 (.int .i64 0) rfl; have hc_R_1 := co B_R 1 (.int .i64 0) rfl; have hc_R_2 := co B_R 2 (.bool false) rfl; have hc_R_3 := co B_R 3 (.int .i64 0) rfl)
  | (go_at_call 78
     (with_reducible refine (ident_Get.calls k a0 a1 t1 t2 t3 t4 t5 0 _ A3.out).mono ?_)
     rintro e w2 ⟨rfl, hb⟩
     have hu := (Upd.of_below hb : Upd None0 _ _)
     replace B_R := Aside0.mk (hu.blk zz54 (fun h => h))
     replace HU := Aside0.mk ((zz25 : Upd None0 w _).trans hu (fun _ h => h.elim))
     clear hu
     (try clear hc_R_0 hc_R_1 hc_R_2 hc_R_3)
     have hc_R_0 := co B_R 0 (.int .i64 0) rfl; have hc_R_1 := co B_R 1 (.int .i64 0) rfl; have hc_R_2 := co B_R 2 (.bool false) rfl; have hc_R_3 := co B_R 3 (.int .i64 0) rfl)
  | ((with_reducible refine gate_dst (N := 7) rfl ?_)
     refine boxnew ?hg (N := 7) ?hd (cs := #[.int .i64 0, .int .i64 0, .bool false, .int .i64 0]) (t := 37) ?hr ?_; (case hd => rfl); (case hg => rfl); (case hr => first | (go_simp; done) | (go_simp; rfl))
     intro g_H hge w3 hbox hu
     have NE_H_R := Aside0.mk (Ne.symm (blk_fresh zz54 hge))
     have GE_H := Aside0.mk (Nat.le_trans (zz25 : Upd None0 w _).size hge)
     replace B_R := Aside0.mk (hu.blk zz54 (fun h => h))
     replace HU := Aside0.mk ((zz25 : Upd None0 w _).trans hu (fun _ h => h.elim))
     clear hu
     have B_H := Aside0.mk hbox; clear hbox hge
     (try clear hc_R_0 hc_R_1 hc_R_2 hc_R_3)
     have hc_R_0 := co B_R 0 (.int .i64 0) rfl; have hc_R_1 := co B_R 1 (.int .i64 0) rfl; have hc_R_2 := co B_R 2 (.bool false) rfl; have hc_R_3 := co B_R 3 (.int .i64 0) rfl; have hc_H_0 := co B_H 0 (.int .i64 0) rfl; have hc_H_1 := co B_H 1 (.int .i64 0) rfl; have hc_H_2 := co B_H 2 (.bool false) rfl; have hc_H_3 := co B_H 3 (.int .i64 0) rfl)
  | ((with_reducible refine gate_store (t := 37) (p := 7) (v := .tmp 15) rfl ?_)
     refine rowput rfl 37 (.tmp 7) (.tmp 15) rfl rfl g_H #[.int .i64 t1, .int .i64 t2, .bool t3, .int .i64 t4] rfl rfl 37 #[.int .i64 0, .int .i64 0, .bool false, .int .i64 0] zz50 zz23 rfl zz70 ?_
     intro w4 hbox hu
     replace B_R := Aside0.mk (hu.blk zz54 (Ne.symm NE_H_R.out))
     replace HU := Aside0.mk ((zz25 : Upd None0 w _).trans hu (fun k hk => .inr zz83))
     clear hu
     clear B_H; have B_H := Aside0.mk hbox; clear hbox
     (try clear hc_R_0 hc_R_1 hc_R_2 hc_R_3 hc_H_0 hc_H_1 hc_H_2 hc_H_3)
     have hc_R_0 := co B_R 0 (.int .i64 0) rfl; have hc_R_1 := co B_R 1 (.int .i64 0) rfl; have hc_R_2 := co B_R 2 (.bool false) rfl; have hc_R_3 := co B_R 3 (.int .i64 0) rfl; have hc_H_0 := co B_H 0 (.int .i64 t1) rfl; have hc_H_1 := co B_H 1 (.int .i64 t2) rfl; have hc_H_2 := co B_H 2 (.bool t3) rfl; have hc_H_3 := co B_H 3 (.int .i64 t4) rfl)
  | (go_at_call 79
     (with_reducible refine (length_Get.calls k a0 t5 t8 t9 t10 _ A5.out).mono ?_)
     rintro e w5 ⟨rfl, hb⟩
     have hu := (Upd.of_below hb.below : Upd None0 _ _)
     replace B_R := Aside0.mk (hu.blk zz54 (fun h => h))
     replace B_H := Aside0.mk (hu.blk zz50 (fun h => h))
     replace HU := Aside0.mk ((zz25 : Upd None0 w _).trans hu (fun _ h => h.elim))
     clear hu
     (try clear hc_R_0 hc_R_1 hc_R_2 hc_R_3 hc_H_0 hc_H_1 hc_H_2 hc_H_3)
     have hc_R_0 := co B_R 0 (.int .i64 0) rfl; have hc_R_1 := co B_R 1 (.int .i64 0) rfl; have hc_R_2 := co B_R 2 (.bool false) rfl; have hc_R_3 := co B_R 3 (.int .i64 0) rfl; have hc_H_0 := co B_H 0 (.int .i64 t1) rfl; have hc_H_1 := co B_H 1 (.int .i64 t2) rfl; have hc_H_2 := co B_H 2 (.bool t3) rfl; have hc_H_3 := co B_H 3 (.int .i64 t4) rfl)
  | ((with_reducible refine gate_store (t := 37) (p := 4) (v := .tmp 32) rfl ?_)
     refine rowput rfl 37 (.tmp 4) (.tmp 32) rfl rfl g_R #[.int .i64 0, .int .i64 0, .bool false, .int .i64 0] rfl rfl 37 #[.int .i64 0, .int .i64 0, .bool false, .int .i64 0] zz54 zz23 rfl zz70 ?_
     intro w6 hbox hu
     replace B_H := Aside0.mk (hu.blk zz50 NE_H_R.out)
     replace HU := Aside0.mk ((zz25 : Upd None0 w _).trans hu (fun k hk => .inr (by rw [hk]; exact GE_R.out)))
     clear hu
     clear B_R; have B_R := Aside0.mk hbox; clear hbox
     (try clear hc_R_0 hc_R_1 hc_R_2 hc_R_3 hc_H_0 hc_H_1 hc_H_2 hc_H_3)
     have hc_R_0 := co B_R 0 (.int .i64 0) rfl; have hc_R_1 := co B_R 1 (.int .i64 0) rfl; have hc_R_2 := co B_R 2 (.bool false) rfl; have hc_R_3 := co B_R 3 (.int .i64 0) rfl; have hc_H_0 := co B_H 0 (.int .i64 t1) rfl; have hc_H_1 := co B_H 1 (.int .i64 t2) rfl; have hc_H_2 := co B_H 2 (.bool t3) rfl; have hc_H_3 := co B_H 3 (.int .i64 t4) rfl))
 refine bodyPost_ret (results_ctt rfl _ _ g_R 37 #[.int .i64 0, .int .i64 0, .bool false, .int .i64 0] (0, 0) _ rfl zz54 Try.underlying37 rfl zz23) rfl ?_
 exact ⟨rfl, Upd.below0 zz25⟩
set_option maxHeartbeats 4000000 in
set_option maxRecDepth 100000 in
theorem head_Get.no (k : Nat) (a0 : ByteArray) (a1 t1 t2 : Int) (t3 : Bool) (t4 t5 t6 : Int) (h1 : ident_Get.f k a0 a1 = some (t1, t2, t3, t4, t5, t6)) (h0 : t6 ≠ 0) (w : World) :
 Calls Try.prog 72 #[.string a0, .int .i64 a1] w fun e w' => e = .returned (.tuple #[.agg #[.int .i64 0, .int .i64 0, .bool false, .int .i64 0], .int .i64 t5, .int .i64 t6]) ∧ Below w.heap.size w w' := by
 have HU := Aside0.mk (Upd.refl None0 w)
 have A3 := Aside0.mk h1
 have hu_ := Try.underlying37
 have c1 : (t6 != 0) = true := bne_iff_ne.2 h0
 clear h1
 go_enter Try.func72, Try.ntmps72
 go_wp2_with (first
  | ((with_reducible refine gate_dst (N := 4) rfl ?_)
     refine boxnew ?hg (N := 4) ?hd (cs := #[.int .i64 0, .int .i64 0, .bool false, .int .i64 0]) (t := 37) ?hr ?_; (case hd => rfl); (case hg => rfl); (case hr => first | (go_simp; done) | (go_simp; rfl))
     intro g_R hge w1 hbox hu
     have GE_R := Aside0.mk (Nat.le_trans (zz25 : Upd None0 w _).size hge)
     replace HU := Aside0.mk ((zz25 : Upd None0 w _).trans hu (fun _ h => h.elim))
     clear hu
     have B_R := Aside0.mk hbox; clear hbox hge
     have hc_R_0 := co B_R 0 (.int .i64 0) rfl; have hc_R_1 := co B_R 1 (.int .i64 0) rfl; have hc_R_2 := co B_R 2 (.bool false) rfl; have hc_R_3 := co B_R 3 (.int .i64 0) rfl)
  | (go_at_call 78
     (with_reducible refine (ident_Get.calls k a0 a1 t1 t2 t3 t4 t5 t6 _ A3.out).mono ?_)
     rintro e w2 ⟨rfl, hb⟩
     have hu := (Upd.of_below hb : Upd None0 _ _)
     replace B_R := Aside0.mk (hu.blk zz54 (fun h => h))
     replace HU := Aside0.mk ((zz25 : Upd None0 w _).trans hu (fun _ h => h.elim))
     clear hu
     (try clear hc_R_0 hc_R_1 hc_R_2 hc_R_3)
     have hc_R_0 := co B_R 0 (.int .i64 0) rfl; have hc_R_1 := co B_R 1 (.int .i64 0) rfl; have hc_R_2 := co B_R 2 (.bool false) rfl; have hc_R_3 := co B_R 3 (.int .i64 0) rfl)
  | ((with_reducible refine gate_dst (N := 7) rfl ?_)
     refine boxnew ?hg (N := 7) ?hd (cs := #[.int .i64 0, .int .i64 0, .bool false, .int .i64 0]) (t := 37) ?hr ?_; (case hd => rfl); (case hg => rfl); (case hr => first | (go_simp; done) | (go_simp; rfl))
     intro g_H hge w3 hbox hu
     have NE_H_R := Aside0.mk (Ne.symm (blk_fresh zz54 hge))
     have GE_H := Aside0.mk (Nat.le_trans (zz25 : Upd None0 w _).size hge)
     replace B_R := Aside0.mk (hu.blk zz54 (fun h => h))
     replace HU := Aside0.mk ((zz25 : Upd None0 w _).trans hu (fun _ h => h.elim))
     clear hu
     have B_H := Aside0.mk hbox; clear hbox hge
     (try clear hc_R_0 hc_R_1 hc_R_2 hc_R_3)
     have hc_R_0 := co B_R 0 (.int .i64 0) rfl; have hc_R_1 := co B_R 1 (.int .i64 0) rfl; have hc_R_2 := co B_R 2 (.bool false) rfl; have hc_R_3 := co B_R 3 (.int .i64 0) rfl; have hc_H_0 := co B_H 0 (.int .i64 0) rfl; have hc_H_1 := co B_H 1 (.int .i64 0) rfl; have hc_H_2 := co B_H 2 (.bool false) rfl; have hc_H_3 := co B_H 3 (.int .i64 0) rfl)
  | ((with_reducible refine gate_store (t := 37) (p := 7) (v := .tmp 15) rfl ?_)
     refine rowput rfl 37 (.tmp 7) (.tmp 15) rfl rfl g_H #[.int .i64 t1, .int .i64 t2, .bool t3, .int .i64 t4] rfl rfl 37 #[.int .i64 0, .int .i64 0, .bool false, .int .i64 0] zz50 zz23 rfl zz70 ?_
     intro w4 hbox hu
     replace B_R := Aside0.mk (hu.blk zz54 (Ne.symm NE_H_R.out))
     replace HU := Aside0.mk ((zz25 : Upd None0 w _).trans hu (fun k hk => .inr zz83))
     clear hu
     clear B_H; have B_H := Aside0.mk hbox; clear hbox
     (try clear hc_R_0 hc_R_1 hc_R_2 hc_R_3 hc_H_0 hc_H_1 hc_H_2 hc_H_3)
     have hc_R_0 := co B_R 0 (.int .i64 0) rfl; have hc_R_1 := co B_R 1 (.int .i64 0) rfl; have hc_R_2 := co B_R 2 (.bool false) rfl; have hc_R_3 := co B_R 3 (.int .i64 0) rfl; have hc_H_0 := co B_H 0 (.int .i64 t1) rfl; have hc_H_1 := co B_H 1 (.int .i64 t2) rfl; have hc_H_2 := co B_H 2 (.bool t3) rfl; have hc_H_3 := co B_H 3 (.int .i64 t4) rfl)
  | ((with_reducible refine gate_store (t := 37) (p := 4) (v := .tmp 20) rfl ?_)
     refine rowput rfl 37 (.tmp 4) (.tmp 20) rfl rfl g_R #[.int .i64 0, .int .i64 0, .bool false, .int .i64 0] rfl rfl 37 #[.int .i64 0, .int .i64 0, .bool false, .int .i64 0] zz54 zz23 rfl zz70 ?_
     intro w5 hbox hu
     replace B_H := Aside0.mk (hu.blk zz50 NE_H_R.out)
     replace HU := Aside0.mk ((zz25 : Upd None0 w _).trans hu (fun k hk => .inr (by rw [hk]; exact GE_R.out)))
     clear hu
     clear B_R; have B_R := Aside0.mk hbox; clear hbox
     (try clear hc_R_0 hc_R_1 hc_R_2 hc_R_3 hc_H_0 hc_H_1 hc_H_2 hc_H_3)
     have hc_R_0 := co B_R 0 (.int .i64 0) rfl; have hc_R_1 := co B_R 1 (.int .i64 0) rfl; have hc_R_2 := co B_R 2 (.bool false) rfl; have hc_R_3 := co B_R 3 (.int .i64 0) rfl; have hc_H_0 := co B_H 0 (.int .i64 t1) rfl; have hc_H_1 := co B_H 1 (.int .i64 t2) rfl; have hc_H_2 := co B_H 2 (.bool t3) rfl; have hc_H_3 := co B_H 3 (.int .i64 t4) rfl))
 refine bodyPost_ret (results_ctt rfl _ _ g_R 37 #[.int .i64 0, .int .i64 0, .bool false, .int .i64 0] (0, 0) _ rfl zz54 Try.underlying37 rfl zz23) rfl ?_
 exact ⟨rfl, Upd.below0 zz25⟩
theorem head_Get.calls (k : Nat) (a0 : ByteArray) (a1 : Int) (r1 : Int) (r2 : Int) (r3 : Bool) (r4 : Int) (r5 : Int) (r6 : Int) (w : World) (h : head_Get.f k a0 a1 = some (r1, r2, r3, r4, r5, r6)) :
 Calls Try.prog 72 #[.string a0, .int .i64 a1] w fun e w' => e = .returned (.tuple #[.agg #[.int .i64 r1, .int .i64 r2, .bool r3, .int .i64 r4], .int .i64 r5, .int .i64 r6]) ∧ Below w.heap.size w w' := by
 unfold head_Get.f at h
 obtain ⟨⟨t1, t2, t3, t4, t5, t6⟩, h1, h⟩ := Option.bind_eq_some_iff.mp h
 simp only at h
 by_cases c : t6 = 0
 ·
  rw [if_pos c] at h
  obtain ⟨⟨t8, t9, t10⟩, h2, h⟩ := Option.bind_eq_some_iff.mp h
  simp only at h
  by_cases c2 : t10 = 0
  ·
   rw [if_pos c2] at h
   simp only [Option.some.injEq, Prod.mk.injEq] at h
   obtain ⟨rfl, rfl, rfl, rfl, rfl, rfl⟩ := h
   exact head_Get.ok k a0 a1 _ _ _ _ _ _ _ _ _ h1 c h2 c2 w
  ·
   rw [if_neg c2] at h
   simp only [Option.some.injEq, Prod.mk.injEq] at h
   obtain ⟨rfl, rfl, rfl, rfl, rfl, rfl⟩ := h
   exact head_Get.cut k a0 a1 _ _ _ _ _ _ _ _ _ h1 c h2 c2 w
 ·
  rw [if_neg c] at h
  simp only [Option.some.injEq, Prod.mk.injEq] at h
  obtain ⟨rfl, rfl, rfl, rfl, rfl, rfl⟩ := h
  exact head_Get.no k a0 a1 _ _ _ _ _ _ h1 c w
end Go.Proofs.Ytpfconocipmcjaa.PC
