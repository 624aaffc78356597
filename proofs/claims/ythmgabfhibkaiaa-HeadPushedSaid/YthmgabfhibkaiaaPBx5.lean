-- Written by a program of this session (print2, a turned print): not PRINTED BY print.sh
import Derived.Test.YthmgabfhibkaiaaPBx0
import Derived.Test.YthmgabfhibkaiaaPBx3
import Derived.Test.YthmgabfhibkaiaaPBx4
namespace Go.Proofs.Ythmgabfhibkaiaa.PB
open Go.RowKit Go.Proofs.YthmgabfhibkaiaaW.PrintWords Go.Proofs.YthmgabfhibkaiaaW.PrintLast Go.Proofs.YthmgabfhibkaiaaW.PrintMore
attribute [local go_sem] max2_int min2_int max_two min_two max_three min_three max_four min_four   -- for this text's walks alone
set_option linter.unusedVariables false
set_option linter.unusedSimpArgs false


/-! ### head_Get: function 12 -/
open Go.Proofs.Ythmgabfhibkaiaa.Own
/-! ### head_Get: walked with whole blocks -/
def head_Get.f (k : Nat) (a0 : ByteArray) (a1 : Int) : Option (Int × Int × Bool × Int × Int × Int) := (ident_Get.f k a0 a1).bind fun bt181 => (if bt181.2.2.2.2.2 = 0 then ((length_Get.f k a0 bt181.2.2.2.2.1).bind fun bt188 => (if bt188.2.2 = 0 then (some (bt181.1, bt181.2.1, bt181.2.2.1, bt188.1, bt188.2.1, 0)) else (some (0, 0, false, 0, bt188.2.1, bt188.2.2)))) else (some (0, 0, false, 0, bt181.2.2.2.2.1, bt181.2.2.2.2.2)))
theorem head_Get.mono : ∀ a0 a1 k, LeO (head_Get.f k a0 a1) (head_Get.f (k + 1) a0 a1) := by
  intro a0 a1 k
  unfold head_Get.f
  refine LeO.bind (ident_Get.mono _ _ _) (fun _ => ?_)
  refine LeO.ite ?_ (LeO.refl _)
  refine LeO.bind (length_Get.mono _ _ _) (fun _ => ?_)
  exact LeO.ite (LeO.refl _) (LeO.refl _)

set_option maxHeartbeats 4000000 in
set_option maxRecDepth 100000 in
theorem head_Get.ok (k : Nat) (a0 : ByteArray) (a1 t1 t2 : Int) (t3 : Bool) (t4 t5 t6 : Int) (t8 t9 t10 : Int) (h1 : ident_Get.f k a0 a1 = some (t1, t2, t3, t4, t5, t6)) (h0 : t6 = 0) (h2 : length_Get.f k a0 t5 = some (t8, t9, t10)) (h3 : t10 = 0) (w : World) :
    Calls Try.prog 12 #[.string a0, .int .i64 a1] w fun e w' => e = .returned (.tuple #[.agg #[.int .i64 t1, .int .i64 t2, .bool t3, .int .i64 t8], .int .i64 t9, .int .i64 0]) ∧ Below w.heap.size w w' := by
  have HU := Aside0.mk (Upd.refl None0 w)
  have A3 := Aside0.mk h1
  have hu_ := Try.underlying23
  have A5 := Aside0.mk h2
  subst h0 h3
  clear h1 h2
  go_enter Try.func12, Try.ntmps12
  go_wp2_with (first
    | ((with_reducible refine gate_dst (N := 4) rfl ?_)
       refine boxnew ?hg (N := 4) ?hd (cs := #[.int .i64 0, .int .i64 0, .bool false, .int .i64 0]) (t := 23) ?hr ?_; (case hd => rfl); (case hg => rfl); (case hr => first | (go_simp; done) | (go_simp; rfl))
       intro g_R hge w1 hbox hu
       have GE_R := Aside0.mk (Nat.le_trans ((by exact ul HU) : Upd None0 w _).size hge)
       replace HU := Aside0.mk (((by exact ul HU) : Upd None0 w _).trans hu (fun _ h => h.elim))
       clear hu
       have B_R := Aside0.mk hbox; clear hbox hge
       have hc_R_0 := co B_R 0 (.int .i64 0) rfl; have hc_R_1 := co B_R 1 (.int .i64 0) rfl; have hc_R_2 := co B_R 2 (.bool false) rfl; have hc_R_3 := co B_R 3 (.int .i64 0) rfl)
    | (go_at_call 20
       (with_reducible refine (ident_Get.calls k a0 a1 t1 t2 t3 t4 t5 0 _ A3.out).mono ?_)
       rintro e w2 ⟨rfl, hb⟩
       have hu := (Upd.of_below hb : Upd None0 _ _)
       replace B_R := Aside0.mk (hu.blk (by exact bl B_R) (fun h => h))
       replace HU := Aside0.mk (((by exact ul HU) : Upd None0 w _).trans hu (fun _ h => h.elim))
       clear hu
       (try clear hc_R_0 hc_R_1 hc_R_2 hc_R_3)
       have hc_R_0 := co B_R 0 (.int .i64 0) rfl; have hc_R_1 := co B_R 1 (.int .i64 0) rfl; have hc_R_2 := co B_R 2 (.bool false) rfl; have hc_R_3 := co B_R 3 (.int .i64 0) rfl)
    | ((with_reducible refine gate_dst (N := 7) rfl ?_)
       refine boxnew ?hg (N := 7) ?hd (cs := #[.int .i64 0, .int .i64 0, .bool false, .int .i64 0]) (t := 23) ?hr ?_; (case hd => rfl); (case hg => rfl); (case hr => first | (go_simp; done) | (go_simp; rfl))
       intro g_H hge w3 hbox hu
       have NE_H_R := Aside0.mk (Ne.symm (blk_fresh (by exact bl B_R) hge))
       have GE_H := Aside0.mk (Nat.le_trans ((by exact ul HU) : Upd None0 w _).size hge)
       replace B_R := Aside0.mk (hu.blk (by exact bl B_R) (fun h => h))
       replace HU := Aside0.mk (((by exact ul HU) : Upd None0 w _).trans hu (fun _ h => h.elim))
       clear hu
       have B_H := Aside0.mk hbox; clear hbox hge
       (try clear hc_R_0 hc_R_1 hc_R_2 hc_R_3)
       have hc_R_0 := co B_R 0 (.int .i64 0) rfl; have hc_R_1 := co B_R 1 (.int .i64 0) rfl; have hc_R_2 := co B_R 2 (.bool false) rfl; have hc_R_3 := co B_R 3 (.int .i64 0) rfl; have hc_H_0 := co B_H 0 (.int .i64 0) rfl; have hc_H_1 := co B_H 1 (.int .i64 0) rfl; have hc_H_2 := co B_H 2 (.bool false) rfl; have hc_H_3 := co B_H 3 (.int .i64 0) rfl)
    | ((with_reducible refine gate_store (t := 23) (p := 7) (v := .tmp 15) rfl ?_)
       refine rowput rfl 23 (.tmp 7) (.tmp 15) rfl rfl g_H #[.int .i64 t1, .int .i64 t2, .bool t3, .int .i64 t4] rfl rfl 23 #[.int .i64 0, .int .i64 0, .bool false, .int .i64 0] (by exact bl B_H) (by kernel_rfl) rfl (by simp [Value.oneCell']) ?_
       intro w4 hbox hu
       replace B_R := Aside0.mk (hu.blk (by exact bl B_R) (Ne.symm NE_H_R.out))
       replace HU := Aside0.mk (((by exact ul HU) : Upd None0 w _).trans hu (fun k hk => .inr (by rw [hk]; exact GE_H.out)))
       clear hu
       clear B_H; have B_H := Aside0.mk hbox; clear hbox
       (try clear hc_R_0 hc_R_1 hc_R_2 hc_R_3 hc_H_0 hc_H_1 hc_H_2 hc_H_3)
       have hc_R_0 := co B_R 0 (.int .i64 0) rfl; have hc_R_1 := co B_R 1 (.int .i64 0) rfl; have hc_R_2 := co B_R 2 (.bool false) rfl; have hc_R_3 := co B_R 3 (.int .i64 0) rfl; have hc_H_0 := co B_H 0 (.int .i64 t1) rfl; have hc_H_1 := co B_H 1 (.int .i64 t2) rfl; have hc_H_2 := co B_H 2 (.bool t3) rfl; have hc_H_3 := co B_H 3 (.int .i64 t4) rfl)
    | (go_at_call 21
       (with_reducible refine (length_Get.calls k a0 t5 t8 t9 0 _ A5.out).mono ?_)
       rintro e w5 ⟨rfl, hb⟩
       have hu := (Upd.of_below hb.below : Upd None0 _ _)
       replace B_R := Aside0.mk (hu.blk (by exact bl B_R) (fun h => h))
       replace B_H := Aside0.mk (hu.blk (by exact bl B_H) (fun h => h))
       replace HU := Aside0.mk (((by exact ul HU) : Upd None0 w _).trans hu (fun _ h => h.elim))
       clear hu
       (try clear hc_R_0 hc_R_1 hc_R_2 hc_R_3 hc_H_0 hc_H_1 hc_H_2 hc_H_3)
       have hc_R_0 := co B_R 0 (.int .i64 0) rfl; have hc_R_1 := co B_R 1 (.int .i64 0) rfl; have hc_R_2 := co B_R 2 (.bool false) rfl; have hc_R_3 := co B_R 3 (.int .i64 0) rfl; have hc_H_0 := co B_H 0 (.int .i64 t1) rfl; have hc_H_1 := co B_H 1 (.int .i64 t2) rfl; have hc_H_2 := co B_H 2 (.bool t3) rfl; have hc_H_3 := co B_H 3 (.int .i64 t4) rfl)
    | ((with_reducible refine gate_store (t := 3) (p := 36) (v := .tmp 35) rfl ?_)
       refine cellput rfl 3 (.tmp 36) (.tmp 35) rfl rfl g_H 3 (.int .i64 t8) rfl rfl 23 #[.int .i64 t1, .int .i64 t2, .bool t3, .int .i64 t4] #[.int .i64 t1, .int .i64 t2, .bool t3, .int .i64 t8] (by exact bl B_H) (by kernel_rfl) (by simp) rfl rfl ?_
       intro w6 hbox hu
       replace B_R := Aside0.mk (hu.blk (by exact bl B_R) (Ne.symm NE_H_R.out))
       replace HU := Aside0.mk (((by exact ul HU) : Upd None0 w _).trans hu (fun k hk => .inr (by rw [hk]; exact GE_H.out)))
       clear hu
       clear B_H; have B_H := Aside0.mk hbox; clear hbox
       (try clear hc_R_0 hc_R_1 hc_R_2 hc_R_3 hc_H_0 hc_H_1 hc_H_2 hc_H_3)
       have hc_R_0 := co B_R 0 (.int .i64 0) rfl; have hc_R_1 := co B_R 1 (.int .i64 0) rfl; have hc_R_2 := co B_R 2 (.bool false) rfl; have hc_R_3 := co B_R 3 (.int .i64 0) rfl; have hc_H_0 := co B_H 0 (.int .i64 t1) rfl; have hc_H_1 := co B_H 1 (.int .i64 t2) rfl; have hc_H_2 := co B_H 2 (.bool t3) rfl; have hc_H_3 := co B_H 3 (.int .i64 t8) rfl)
    | ((with_reducible refine gate_store (t := 23) (p := 4) (v := .tmp 37) rfl ?_)
       refine rowput rfl 23 (.tmp 4) (.tmp 37) rfl rfl g_R #[.int .i64 t1, .int .i64 t2, .bool t3, .int .i64 t8] rfl rfl 23 #[.int .i64 0, .int .i64 0, .bool false, .int .i64 0] (by exact bl B_R) (by kernel_rfl) rfl (by simp [Value.oneCell']) ?_
       intro w7 hbox hu
       replace B_H := Aside0.mk (hu.blk (by exact bl B_H) NE_H_R.out)
       replace HU := Aside0.mk (((by exact ul HU) : Upd None0 w _).trans hu (fun k hk => .inr (by rw [hk]; exact GE_R.out)))
       clear hu
       clear B_R; have B_R := Aside0.mk hbox; clear hbox
       (try clear hc_R_0 hc_R_1 hc_R_2 hc_R_3 hc_H_0 hc_H_1 hc_H_2 hc_H_3)
       have hc_R_0 := co B_R 0 (.int .i64 t1) rfl; have hc_R_1 := co B_R 1 (.int .i64 t2) rfl; have hc_R_2 := co B_R 2 (.bool t3) rfl; have hc_R_3 := co B_R 3 (.int .i64 t8) rfl; have hc_H_0 := co B_H 0 (.int .i64 t1) rfl; have hc_H_1 := co B_H 1 (.int .i64 t2) rfl; have hc_H_2 := co B_H 2 (.bool t3) rfl; have hc_H_3 := co B_H 3 (.int .i64 t8) rfl))
  refine bodyPost_ret (results_ctt rfl _ _ g_R 23 #[.int .i64 t1, .int .i64 t2, .bool t3, .int .i64 t8] (0, 0) _ rfl (by exact bl B_R) Try.underlying23 rfl (by kernel_rfl)) rfl ?_
  exact ⟨rfl, Upd.below0 (by exact ul HU)⟩
set_option maxHeartbeats 4000000 in
set_option maxRecDepth 100000 in
theorem head_Get.cut (k : Nat) (a0 : ByteArray) (a1 t1 t2 : Int) (t3 : Bool) (t4 t5 t6 : Int) (t8 t9 t10 : Int) (h1 : ident_Get.f k a0 a1 = some (t1, t2, t3, t4, t5, t6)) (h0 : t6 = 0) (h2 : length_Get.f k a0 t5 = some (t8, t9, t10)) (h3 : t10 ≠ 0) (w : World) :
    Calls Try.prog 12 #[.string a0, .int .i64 a1] w fun e w' => e = .returned (.tuple #[.agg #[.int .i64 0, .int .i64 0, .bool false, .int .i64 0], .int .i64 t9, .int .i64 t10]) ∧ Below w.heap.size w w' := by
  have HU := Aside0.mk (Upd.refl None0 w)
  have A3 := Aside0.mk h1
  have hu_ := Try.underlying23
  have A5 := Aside0.mk h2
  subst h0
  have c1 : (t10 != 0) = true := bne_iff_ne.2 h3
  clear h1 h2
  go_enter Try.func12, Try.ntmps12
  go_wp2_with (first
    | ((with_reducible refine gate_dst (N := 4) rfl ?_)
       refine boxnew ?hg (N := 4) ?hd (cs := #[.int .i64 0, .int .i64 0, .bool false, .int .i64 0]) (t := 23) ?hr ?_; (case hd => rfl); (case hg => rfl); (case hr => first | (go_simp; done) | (go_simp; rfl))
       intro g_R hge w1 hbox hu
       have GE_R := Aside0.mk (Nat.le_trans ((by exact ul HU) : Upd None0 w _).size hge)
       replace HU := Aside0.mk (((by exact ul HU) : Upd None0 w _).trans hu (fun _ h => h.elim))
       clear hu
       have B_R := Aside0.mk hbox; clear hbox hge
       have hc_R_0 := co B_R 0 (.int .i64 0) rfl; have hc_R_1 := co B_R 1 (.int .i64 0) rfl; have hc_R_2 := co B_R 2 (.bool false) rfl; have hc_R_3 := co B_R 3 (.int .i64 0) rfl)
    | (go_at_call 20
       (with_reducible refine (ident_Get.calls k a0 a1 t1 t2 t3 t4 t5 0 _ A3.out).mono ?_)
       rintro e w2 ⟨rfl, hb⟩
       have hu := (Upd.of_below hb : Upd None0 _ _)
       replace B_R := Aside0.mk (hu.blk (by exact bl B_R) (fun h => h))
       replace HU := Aside0.mk (((by exact ul HU) : Upd None0 w _).trans hu (fun _ h => h.elim))
       clear hu
       (try clear hc_R_0 hc_R_1 hc_R_2 hc_R_3)
       have hc_R_0 := co B_R 0 (.int .i64 0) rfl; have hc_R_1 := co B_R 1 (.int .i64 0) rfl; have hc_R_2 := co B_R 2 (.bool false) rfl; have hc_R_3 := co B_R 3 (.int .i64 0) rfl)
    | ((with_reducible refine gate_dst (N := 7) rfl ?_)
       refine boxnew ?hg (N := 7) ?hd (cs := #[.int .i64 0, .int .i64 0, .bool false, .int .i64 0]) (t := 23) ?hr ?_; (case hd => rfl); (case hg => rfl); (case hr => first | (go_simp; done) | (go_simp; rfl))
       intro g_H hge w3 hbox hu
       have NE_H_R := Aside0.mk (Ne.symm (blk_fresh (by exact bl B_R) hge))
       have GE_H := Aside0.mk (Nat.le_trans ((by exact ul HU) : Upd None0 w _).size hge)
       replace B_R := Aside0.mk (hu.blk (by exact bl B_R) (fun h => h))
       replace HU := Aside0.mk (((by exact ul HU) : Upd None0 w _).trans hu (fun _ h => h.elim))
       clear hu
       have B_H := Aside0.mk hbox; clear hbox hge
       (try clear hc_R_0 hc_R_1 hc_R_2 hc_R_3)
       have hc_R_0 := co B_R 0 (.int .i64 0) rfl; have hc_R_1 := co B_R 1 (.int .i64 0) rfl; have hc_R_2 := co B_R 2 (.bool false) rfl; have hc_R_3 := co B_R 3 (.int .i64 0) rfl; have hc_H_0 := co B_H 0 (.int .i64 0) rfl; have hc_H_1 := co B_H 1 (.int .i64 0) rfl; have hc_H_2 := co B_H 2 (.bool false) rfl; have hc_H_3 := co B_H 3 (.int .i64 0) rfl)
    | ((with_reducible refine gate_store (t := 23) (p := 7) (v := .tmp 15) rfl ?_)
       refine rowput rfl 23 (.tmp 7) (.tmp 15) rfl rfl g_H #[.int .i64 t1, .int .i64 t2, .bool t3, .int .i64 t4] rfl rfl 23 #[.int .i64 0, .int .i64 0, .bool false, .int .i64 0] (by exact bl B_H) (by kernel_rfl) rfl (by simp [Value.oneCell']) ?_
       intro w4 hbox hu
       replace B_R := Aside0.mk (hu.blk (by exact bl B_R) (Ne.symm NE_H_R.out))
       replace HU := Aside0.mk (((by exact ul HU) : Upd None0 w _).trans hu (fun k hk => .inr (by rw [hk]; exact GE_H.out)))
       clear hu
       clear B_H; have B_H := Aside0.mk hbox; clear hbox
       (try clear hc_R_0 hc_R_1 hc_R_2 hc_R_3 hc_H_0 hc_H_1 hc_H_2 hc_H_3)
       have hc_R_0 := co B_R 0 (.int .i64 0) rfl; have hc_R_1 := co B_R 1 (.int .i64 0) rfl; have hc_R_2 := co B_R 2 (.bool false) rfl; have hc_R_3 := co B_R 3 (.int .i64 0) rfl; have hc_H_0 := co B_H 0 (.int .i64 t1) rfl; have hc_H_1 := co B_H 1 (.int .i64 t2) rfl; have hc_H_2 := co B_H 2 (.bool t3) rfl; have hc_H_3 := co B_H 3 (.int .i64 t4) rfl)
    | (go_at_call 21
       (with_reducible refine (length_Get.calls k a0 t5 t8 t9 t10 _ A5.out).mono ?_)
       rintro e w5 ⟨rfl, hb⟩
       have hu := (Upd.of_below hb.below : Upd None0 _ _)
       replace B_R := Aside0.mk (hu.blk (by exact bl B_R) (fun h => h))
       replace B_H := Aside0.mk (hu.blk (by exact bl B_H) (fun h => h))
       replace HU := Aside0.mk (((by exact ul HU) : Upd None0 w _).trans hu (fun _ h => h.elim))
       clear hu
       (try clear hc_R_0 hc_R_1 hc_R_2 hc_R_3 hc_H_0 hc_H_1 hc_H_2 hc_H_3)
       have hc_R_0 := co B_R 0 (.int .i64 0) rfl; have hc_R_1 := co B_R 1 (.int .i64 0) rfl; have hc_R_2 := co B_R 2 (.bool false) rfl; have hc_R_3 := co B_R 3 (.int .i64 0) rfl; have hc_H_0 := co B_H 0 (.int .i64 t1) rfl; have hc_H_1 := co B_H 1 (.int .i64 t2) rfl; have hc_H_2 := co B_H 2 (.bool t3) rfl; have hc_H_3 := co B_H 3 (.int .i64 t4) rfl)
    | ((with_reducible refine gate_store (t := 23) (p := 4) (v := .tmp 32) rfl ?_)
       refine rowput rfl 23 (.tmp 4) (.tmp 32) rfl rfl g_R #[.int .i64 0, .int .i64 0, .bool false, .int .i64 0] rfl rfl 23 #[.int .i64 0, .int .i64 0, .bool false, .int .i64 0] (by exact bl B_R) (by kernel_rfl) rfl (by simp [Value.oneCell']) ?_
       intro w6 hbox hu
       replace B_H := Aside0.mk (hu.blk (by exact bl B_H) NE_H_R.out)
       replace HU := Aside0.mk (((by exact ul HU) : Upd None0 w _).trans hu (fun k hk => .inr (by rw [hk]; exact GE_R.out)))
       clear hu
       clear B_R; have B_R := Aside0.mk hbox; clear hbox
       (try clear hc_R_0 hc_R_1 hc_R_2 hc_R_3 hc_H_0 hc_H_1 hc_H_2 hc_H_3)
       have hc_R_0 := co B_R 0 (.int .i64 0) rfl; have hc_R_1 := co B_R 1 (.int .i64 0) rfl; have hc_R_2 := co B_R 2 (.bool false) rfl; have hc_R_3 := co B_R 3 (.int .i64 0) rfl; have hc_H_0 := co B_H 0 (.int .i64 t1) rfl; have hc_H_1 := co B_H 1 (.int .i64 t2) rfl; have hc_H_2 := co B_H 2 (.bool t3) rfl; have hc_H_3 := co B_H 3 (.int .i64 t4) rfl))
  refine bodyPost_ret (results_ctt rfl _ _ g_R 23 #[.int .i64 0, .int .i64 0, .bool false, .int .i64 0] (0, 0) _ rfl (by exact bl B_R) Try.underlying23 rfl (by kernel_rfl)) rfl ?_
  exact ⟨rfl, Upd.below0 (by exact ul HU)⟩
set_option maxHeartbeats 4000000 in
set_option maxRecDepth 100000 in
theorem head_Get.no (k : Nat) (a0 : ByteArray) (a1 t1 t2 : Int) (t3 : Bool) (t4 t5 t6 : Int) (h1 : ident_Get.f k a0 a1 = some (t1, t2, t3, t4, t5, t6)) (h0 : t6 ≠ 0) (w : World) :
    Calls Try.prog 12 #[.string a0, .int .i64 a1] w fun e w' => e = .returned (.tuple #[.agg #[.int .i64 0, .int .i64 0, .bool false, .int .i64 0], .int .i64 t5, .int .i64 t6]) ∧ Below w.heap.size w w' := by
  have HU := Aside0.mk (Upd.refl None0 w)
  have A3 := Aside0.mk h1
  have hu_ := Try.underlying23
  have c1 : (t6 != 0) = true := bne_iff_ne.2 h0
  clear h1
  go_enter Try.func12, Try.ntmps12
  go_wp2_with (first
    | ((with_reducible refine gate_dst (N := 4) rfl ?_)
       refine boxnew ?hg (N := 4) ?hd (cs := #[.int .i64 0, .int .i64 0, .bool false, .int .i64 0]) (t := 23) ?hr ?_; (case hd => rfl); (case hg => rfl); (case hr => first | (go_simp; done) | (go_simp; rfl))
       intro g_R hge w1 hbox hu
       have GE_R := Aside0.mk (Nat.le_trans ((by exact ul HU) : Upd None0 w _).size hge)
       replace HU := Aside0.mk (((by exact ul HU) : Upd None0 w _).trans hu (fun _ h => h.elim))
       clear hu
       have B_R := Aside0.mk hbox; clear hbox hge
       have hc_R_0 := co B_R 0 (.int .i64 0) rfl; have hc_R_1 := co B_R 1 (.int .i64 0) rfl; have hc_R_2 := co B_R 2 (.bool false) rfl; have hc_R_3 := co B_R 3 (.int .i64 0) rfl)
    | (go_at_call 20
       (with_reducible refine (ident_Get.calls k a0 a1 t1 t2 t3 t4 t5 t6 _ A3.out).mono ?_)
       rintro e w2 ⟨rfl, hb⟩
       have hu := (Upd.of_below hb : Upd None0 _ _)
       replace B_R := Aside0.mk (hu.blk (by exact bl B_R) (fun h => h))
       replace HU := Aside0.mk (((by exact ul HU) : Upd None0 w _).trans hu (fun _ h => h.elim))
       clear hu
       (try clear hc_R_0 hc_R_1 hc_R_2 hc_R_3)
       have hc_R_0 := co B_R 0 (.int .i64 0) rfl; have hc_R_1 := co B_R 1 (.int .i64 0) rfl; have hc_R_2 := co B_R 2 (.bool false) rfl; have hc_R_3 := co B_R 3 (.int .i64 0) rfl)
    | ((with_reducible refine gate_dst (N := 7) rfl ?_)
       refine boxnew ?hg (N := 7) ?hd (cs := #[.int .i64 0, .int .i64 0, .bool false, .int .i64 0]) (t := 23) ?hr ?_; (case hd => rfl); (case hg => rfl); (case hr => first | (go_simp; done) | (go_simp; rfl))
       intro g_H hge w3 hbox hu
       have NE_H_R := Aside0.mk (Ne.symm (blk_fresh (by exact bl B_R) hge))
       have GE_H := Aside0.mk (Nat.le_trans ((by exact ul HU) : Upd None0 w _).size hge)
       replace B_R := Aside0.mk (hu.blk (by exact bl B_R) (fun h => h))
       replace HU := Aside0.mk (((by exact ul HU) : Upd None0 w _).trans hu (fun _ h => h.elim))
       clear hu
       have B_H := Aside0.mk hbox; clear hbox hge
       (try clear hc_R_0 hc_R_1 hc_R_2 hc_R_3)
       have hc_R_0 := co B_R 0 (.int .i64 0) rfl; have hc_R_1 := co B_R 1 (.int .i64 0) rfl; have hc_R_2 := co B_R 2 (.bool false) rfl; have hc_R_3 := co B_R 3 (.int .i64 0) rfl; have hc_H_0 := co B_H 0 (.int .i64 0) rfl; have hc_H_1 := co B_H 1 (.int .i64 0) rfl; have hc_H_2 := co B_H 2 (.bool false) rfl; have hc_H_3 := co B_H 3 (.int .i64 0) rfl)
    | ((with_reducible refine gate_store (t := 23) (p := 7) (v := .tmp 15) rfl ?_)
       refine rowput rfl 23 (.tmp 7) (.tmp 15) rfl rfl g_H #[.int .i64 t1, .int .i64 t2, .bool t3, .int .i64 t4] rfl rfl 23 #[.int .i64 0, .int .i64 0, .bool false, .int .i64 0] (by exact bl B_H) (by kernel_rfl) rfl (by simp [Value.oneCell']) ?_
       intro w4 hbox hu
       replace B_R := Aside0.mk (hu.blk (by exact bl B_R) (Ne.symm NE_H_R.out))
       replace HU := Aside0.mk (((by exact ul HU) : Upd None0 w _).trans hu (fun k hk => .inr (by rw [hk]; exact GE_H.out)))
       clear hu
       clear B_H; have B_H := Aside0.mk hbox; clear hbox
       (try clear hc_R_0 hc_R_1 hc_R_2 hc_R_3 hc_H_0 hc_H_1 hc_H_2 hc_H_3)
       have hc_R_0 := co B_R 0 (.int .i64 0) rfl; have hc_R_1 := co B_R 1 (.int .i64 0) rfl; have hc_R_2 := co B_R 2 (.bool false) rfl; have hc_R_3 := co B_R 3 (.int .i64 0) rfl; have hc_H_0 := co B_H 0 (.int .i64 t1) rfl; have hc_H_1 := co B_H 1 (.int .i64 t2) rfl; have hc_H_2 := co B_H 2 (.bool t3) rfl; have hc_H_3 := co B_H 3 (.int .i64 t4) rfl)
    | ((with_reducible refine gate_store (t := 23) (p := 4) (v := .tmp 20) rfl ?_)
       refine rowput rfl 23 (.tmp 4) (.tmp 20) rfl rfl g_R #[.int .i64 0, .int .i64 0, .bool false, .int .i64 0] rfl rfl 23 #[.int .i64 0, .int .i64 0, .bool false, .int .i64 0] (by exact bl B_R) (by kernel_rfl) rfl (by simp [Value.oneCell']) ?_
       intro w5 hbox hu
       replace B_H := Aside0.mk (hu.blk (by exact bl B_H) NE_H_R.out)
       replace HU := Aside0.mk (((by exact ul HU) : Upd None0 w _).trans hu (fun k hk => .inr (by rw [hk]; exact GE_R.out)))
       clear hu
       clear B_R; have B_R := Aside0.mk hbox; clear hbox
       (try clear hc_R_0 hc_R_1 hc_R_2 hc_R_3 hc_H_0 hc_H_1 hc_H_2 hc_H_3)
       have hc_R_0 := co B_R 0 (.int .i64 0) rfl; have hc_R_1 := co B_R 1 (.int .i64 0) rfl; have hc_R_2 := co B_R 2 (.bool false) rfl; have hc_R_3 := co B_R 3 (.int .i64 0) rfl; have hc_H_0 := co B_H 0 (.int .i64 t1) rfl; have hc_H_1 := co B_H 1 (.int .i64 t2) rfl; have hc_H_2 := co B_H 2 (.bool t3) rfl; have hc_H_3 := co B_H 3 (.int .i64 t4) rfl))
  refine bodyPost_ret (results_ctt rfl _ _ g_R 23 #[.int .i64 0, .int .i64 0, .bool false, .int .i64 0] (0, 0) _ rfl (by exact bl B_R) Try.underlying23 rfl (by kernel_rfl)) rfl ?_
  exact ⟨rfl, Upd.below0 (by exact ul HU)⟩
theorem head_Get.calls (k : Nat) (a0 : ByteArray) (a1 : Int) (r1 : Int) (r2 : Int) (r3 : Bool) (r4 : Int) (r5 : Int) (r6 : Int) (w : World) (h : head_Get.f k a0 a1 = some (r1, r2, r3, r4, r5, r6)) :
    Calls Try.prog 12 #[.string a0, .int .i64 a1] w fun e w' => e = .returned (.tuple #[.agg #[.int .i64 r1, .int .i64 r2, .bool r3, .int .i64 r4], .int .i64 r5, .int .i64 r6]) ∧ Below w.heap.size w w' := by
  unfold head_Get.f at h
  obtain ⟨⟨t1, t2, t3, t4, t5, t6⟩, h1, h⟩ := Option.bind_eq_some_iff.mp h
  simp only at h
  by_cases c : t6 = 0
  · rw [if_pos c] at h
    obtain ⟨⟨t8, t9, t10⟩, h2, h⟩ := Option.bind_eq_some_iff.mp h
    simp only at h
    by_cases c2 : t10 = 0
    · rw [if_pos c2] at h
      simp only [Option.some.injEq, Prod.mk.injEq] at h
      obtain ⟨rfl, rfl, rfl, rfl, rfl, rfl⟩ := h
      exact head_Get.ok k a0 a1 _ _ _ _ _ _ _ _ _ h1 c h2 c2 w
    · rw [if_neg c2] at h
      simp only [Option.some.injEq, Prod.mk.injEq] at h
      obtain ⟨rfl, rfl, rfl, rfl, rfl, rfl⟩ := h
      exact head_Get.cut k a0 a1 _ _ _ _ _ _ _ _ _ h1 c h2 c2 w
  · rw [if_neg c] at h
    simp only [Option.some.injEq, Prod.mk.injEq] at h
    obtain ⟨rfl, rfl, rfl, rfl, rfl, rfl⟩ := h
    exact head_Get.no k a0 a1 _ _ _ _ _ _ h1 c w

/-- A state of type 51 at block g of W; what its slices lead to came in by w0. -/
def IsS51 (w0 W : World) (g : Nat) (f0 : List Int) (f1 : Int) : Prop := ∃ A0 c0, W.heap[g]? = some (.cells #[.slice A0 f0.length c0, .int .i64 f1] 51 (0, 0)) ∧ w0.heap.size ≤ g ∧ Kd.C (Kd.int .u8) w0 A0 f0.length f0
theorem IsS51.grown {w0 W : World} {g : Nat} {f0 : List Int} {f1 : Int} {W1 : World} {row : Option Nat} (h : IsS51 w0 W g f0 f1) (hw : W.grownBy W1 row) (hne : some g ≠ row) : IsS51 w0 W1 g f0 f1 := by
  obtain ⟨A0, c0, hb, hg, hr0⟩ := h
  exact ⟨A0, c0, blk_grown hb hw hne, hg, hr0⟩
theorem IsS51.own_neN {w0 W : World} {g : Nat} {f0 : List Int} {f1 : Int} {α : Type} {d : Kd α} {e : Nat} {base : Nat} {ok : Nat → Prop} {v : Value} {xs : List α} (h : IsS51 w0 W g f0 f1) (ho : Kd.N d e W base ok v xs) (ht : e ≠ 51) : some g ≠ v.ownBlock := by
  obtain ⟨A0, c0, hb, hg, hr0⟩ := h
  exact Kd.N_ne ho hb ht
theorem IsS51.fresh {w0 W : World} {g : Nat} {f0 : List Int} {f1 : Int} (h : IsS51 w0 W g f0 f1) : ∀ k, W.heap.size ≤ k → k ≠ g := by
  obtain ⟨A0, c0, hb, hg, hr0⟩ := h
  exact Kd.freshB hb
theorem IsS51.kept {w0 W : World} {g : Nat} {f0 : List Int} {f1 : Int} {W1 : World} {S : Nat → Prop} (h : IsS51 w0 W g f0 f1) (hk : Kept W W1 S) (hne : ¬ S g) : IsS51 w0 W1 g f0 f1 := by
  obtain ⟨A0, c0, hb, hg, hr0⟩ := h
  exact ⟨A0, c0, blk_kept hb hk hne, hg, hr0⟩
theorem IsS51.below {w0 W : World} {g : Nat} {f0 : List Int} {f1 : Int} {W1 : World} (h : IsS51 w0 W g f0 f1) (hw : Below W.heap.size W W1) : IsS51 w0 W1 g f0 f1 := h.grown (grown_of_below hw none) (by simp)
theorem IsS51.alloc {w0 W : World} {g : Nat} {f0 : List Int} {f1 : Int} (h : IsS51 w0 W g f0 f1) (o : Obj) : IsS51 w0 (W.alloc o) g f0 f1 := h.below (below_alloc (Below.refl _ _) o)
theorem IsS51.drewN {w0 W : World} {g : Nat} {f0 : List Int} {f1 : Int} (h : IsS51 w0 W g f0 f1) (m : Nat) : IsS51 w0 (W.drewN m) g f0 f1 := h
theorem IsS51.drew {w0 W : World} {g : Nat} {f0 : List Int} {f1 : Int} (h : IsS51 w0 W g f0 f1) : IsS51 w0 W.drew g f0 f1 := h
theorem IsS51.at_ {w0 W : World} {g : Nat} {f0 : List Int} {f1 : Int} {w' : World} {m : Nat} (hq : W.drewN m = w') (h : IsS51 w0 W g f0 f1) : IsS51 w0 w' g f0 f1 := by subst hq; exact IsS51.drewN h m
theorem IsS51.apart {w0 W : World} {g : Nat} {f0 : List Int} {f1 : Int} {α : Type} {d : Kd α} {e : Nat} {base : Nat} {ok : Nat → Prop} {v : Value} {xs : List α} (h : IsS51 w0 W g f0 f1) (ho : d.R e W base ok v xs) (ht : ∀ q, q ∈ e :: d.E → q ≠ 51) : d.R e W base (fun k => ok k ∧ k ≠ g) v xs := by
  obtain ⟨A0, c0, hb, hg, hr0⟩ := h
  exact Kd.R_types ho hb ht
theorem IsS51.own_ne {w0 W : World} {g : Nat} {f0 : List Int} {f1 : Int} {α : Type} {d : Kd α} {e : Nat} {base : Nat} {ok : Nat → Prop} {v : Value} {xs : List α} (h : IsS51 w0 W g f0 f1) (ho : d.R e W base ok v xs) (ht : e ≠ 51) : some g ≠ v.ownBlock := by
  obtain ⟨A0, c0, hb, hg, hr0⟩ := h
  exact Kd.R_ne ho hb ht
theorem IsS51.apartQ {w0 W : World} {g : Nat} {f0 : List Int} {f1 : Int} {α : Type} {d : Kd α} {e : Nat} {base : Nat} {ok : Nat → Prop} {v : Value} {xs : List α} (h : IsS51 w0 W g f0 f1) (ho : d.Q e W base ok v xs) (ht : ∀ q, q ∈ e :: d.E → q ≠ 51) : d.Q e W base (fun k => ok k ∧ k ≠ g) v xs := by
  obtain ⟨A0, c0, hb, hg, hr0⟩ := h
  exact Kd.Q_types ho hb ht
theorem IsS51.own_neQ {w0 W : World} {g : Nat} {f0 : List Int} {f1 : Int} {α : Type} {d : Kd α} {e : Nat} {base : Nat} {ok : Nat → Prop} {v : Value} {xs : List α} (h : IsS51 w0 W g f0 f1) (ho : d.Q e W base ok v xs) (ht : e ≠ 51) : some g ≠ v.ownBlock := by
  obtain ⟨A0, c0, hb, hg, hr0⟩ := h
  exact Kd.Q_ne ho hb ht
theorem IsS51.apartS {w0 W : World} {g : Nat} {f0 : List Int} {f1 : Int} {α : Type} {d : Kd α} {e : Nat} {base : Nat} {ok : Nat → Prop} {v : Value} {xs : List α} (h : IsS51 w0 W g f0 f1) (ho : d.S e W base ok v xs) (ht : ∀ q, q ∈ e :: d.E → q ≠ 51) : d.S e W base (fun k => ok k ∧ k ≠ g) v xs := by
  obtain ⟨A0, c0, hb, hg, hr0⟩ := h
  exact Kd.S_types ho hb ht
theorem IsS51.own_neS {w0 W : World} {g : Nat} {f0 : List Int} {f1 : Int} {α : Type} {d : Kd α} {e : Nat} {base : Nat} {ok : Nat → Prop} {v : Value} {xs : List α} (h : IsS51 w0 W g f0 f1) (ho : d.S e W base ok v xs) (ht : e ≠ 51) : some g ≠ v.ownBlock := by
  obtain ⟨A0, c0, hb, hg, hr0⟩ := h
  exact Kd.S_ne ho hb ht
theorem IsS51.lt {w0 W : World} {g : Nat} {f0 : List Int} {f1 : Int} (h : IsS51 w0 W g f0 f1) : g < W.heap.size := by
  obtain ⟨A0, c0, hb, hg, hr0⟩ := h
  exact blk_lt hb
theorem IsS51.ge {w0 W : World} {g : Nat} {f0 : List Int} {f1 : Int} (h : IsS51 w0 W g f0 f1) : w0.heap.size ≤ g := by
  obtain ⟨A0, c0, hb, hg, hr0⟩ := h
  exact hg
theorem IsS51.ne_blk {w0 W : World} {g : Nat} {f0 : List Int} {f1 : Int} {a : Nat} {cs : Array Value} {t : TypeId} {fr : Nat × Nat} (h : IsS51 w0 W g f0 f1) (hb2 : W.heap[a]? = some (.cells cs t fr)) (ht : t ≠ 51) : g ≠ a := by
  obtain ⟨A0, c0, hb, hg, hr0⟩ := h
  rintro rfl
  rw [hb] at hb2
  injection hb2 with hb2
  injection hb2 with _ ht2
  exact ht ht2.symm
theorem IsS51.far {w0 W : World} {g : Nat} {f0 : List Int} {f1 : Int} {p : Addr} (h : IsS51 w0 W g f0 f1) (hne : g ≠ p.block) (u : Value) : IsS51 w0 (W.setCell p u) g f0 f1 := by
  obtain ⟨A0, c0, hb, hg, hr0⟩ := h
  exact ⟨A0, c0, blk_far hb hne u, hg, hr0⟩
theorem cellS51_0 {W : World} {g : Nat} {A0 : Option Addr} {c0 : Nat} {f0 : List Int} {f1 : Int} (h : W.heap[g]? = some (.cells #[.slice A0 f0.length c0, .int .i64 f1] 51 (0, 0))) : W.cell? ⟨g, 0, none⟩ = some (.slice A0 f0.length c0) := (blk_cell h 0).trans rfl
theorem cellS51_1 {W : World} {g : Nat} {A0 : Option Addr} {c0 : Nat} {f0 : List Int} {f1 : Int} (h : W.heap[g]? = some (.cells #[.slice A0 f0.length c0, .int .i64 f1] 51 (0, 0))) : W.cell? ⟨g, 1, none⟩ = some (.int .i64 f1) := (blk_cell h 1).trans rfl
theorem IsS51.set_1 {w0 W : World} {g : Nat} {f0 : List Int} {f1 : Int} (h : IsS51 w0 W g f0 f1) (x : Int) : IsS51 w0 (W.setCell ⟨g, 1, none⟩ (.int .i64 x)) g f0 x := by
  obtain ⟨A0, c0, hb, hg, hr0⟩ := h
  exact ⟨A0, c0, by simpa using blk_set hb 1 (.int .i64 x), hg, hr0⟩
theorem IsS51.new (w0 W : World) (A0 : Option Addr) (c0 : Nat) (f0 : List Int) (f1 : Int) (hB : Below w0.heap.size w0 W) (hr0 : Kd.C (Kd.int .u8) w0 A0 f0.length f0) : IsS51 w0 (W.alloc (.cells #[.slice A0 f0.length c0, .int .i64 f1] 51)) W.heap.size f0 f1 := ⟨A0, c0, by simpa using heap_alloc_new W _, hB.size, hr0⟩

/-! ### head_New: function 14 -/
def head_New.f  : Option (List Int × Int) := some (([] : List Int), 0)
set_option maxHeartbeats 8000000 in
set_option maxRecDepth 100000 in
theorem head_New.calls  (r1 : List Int) (r2 : Int) (w0 w : World) (hB : Below w0.heap.size w0 w) (h : head_New.f  = some (r1, r2)) :
    Calls Try.prog 14 #[] w fun e w' => ∃ g_ : Nat, e = .returned (.pointer (some ⟨g_, 0, none⟩)) ∧ IsS51 w0 w' g_ r1 r2 ∧ Below w0.heap.size w0 w' ∧ Below w.heap.size w w' := by
  have hu51 := Try.underlying51
  have HBW := Aside0.mk (Below.refl w.heap.size w)
  have HW0 := Aside0.mk hB.size
  have HB := Aside0.mk hB
  clear hB
  have H : (some (([] : List Int), 0)) = some (r1, r2) := h
  clear h
  simp only [Option.some.injEq, Prod.mk.injEq] at H
  obtain ⟨rfl, rfl⟩ := H
  go_enter Try.func14, Try.ntmps14
  go_wp2_with (first | ((with_reducible refine gate_dst (N := 2) rfl ?_); refine box_event ?hg (N := 2) ?hd (cs := #[.slice none 0 0, .int .i64 0]) (t := 51) ?hr ?_; (case hd => rfl); (case hg => rfl); (case hr => first | (go_simp; done) | (go_simp; rfl)); intro gb133 hg w1 hbox hb; have n0_ := Aside0.mk (below_step HBW.out hb); have n1_ := Aside0.mk (below_step (by repeat (first | (with_reducible first | exact HB.out | apply below_alloc | apply pw_below_drewN | apply below_drew1) | exact HB.out)) hb); have n2_ := Aside0.mk (hbox); have n3_ := Aside0.mk ((by rw [hg]; exact (below_size (by repeat (first | (with_reducible first | exact HBW.out | apply below_alloc | apply pw_below_drewN | apply below_drew1) | exact HBW.out))) : w.heap.size ≤ gb133)); have n4_ := Aside0.mk ((Nat.le_trans HW0.out (by rw [hg]; exact (below_size (by repeat (first | (with_reducible first | exact HBW.out | apply below_alloc | apply pw_below_drewN | apply below_drew1) | exact HBW.out))) : w.heap.size ≤ gb133) : w0.heap.size ≤ gb133)); clear HBW; clear HB; have HBW := n0_; have HB := n1_; have BK133 := n2_; have GW133 := n3_; have GE133 := n4_; clear n0_ n1_ n2_ n3_ n4_; clear hb hbox hg))
  go_ret
  exact ⟨_, rfl, (show IsS51 w0 _ gb133 ([] : List Int) 0 from ⟨none, 0, by (with_reducible repeat (first | refine blk_drewN ?_ _ | refine blk_drew ?_ | refine blk_alloc ?_ _)); exact BK133.out, GE133.out, (Kd.C_nil _ _)⟩), by repeat (first | (with_reducible first | exact HB.out | apply below_alloc | apply pw_below_drewN | apply below_drew1 | refine below_set ?_ GE133.out) | exact HB.out), by repeat (first | (with_reducible first | exact HBW.out | apply below_alloc | apply pw_below_drewN | apply below_drew1 | refine below_set ?_ GW133.out) | exact HBW.out)⟩

-- NOT PRINTED: function 15 (head_Reader_Push)

end Go.Proofs.Ythmgabfhibkaiaa.PB
