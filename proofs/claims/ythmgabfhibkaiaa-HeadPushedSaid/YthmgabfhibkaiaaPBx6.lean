-- Written by a program of this session (print2, a turned print): not PRINTED BY print.sh
import Derived.Test.YthmgabfhibkaiaaPBx6p0
namespace Go.Proofs.Ythmgabfhibkaiaa.PB
open Go.RowKit Go.Proofs.YthmgabfhibkaiaaW.PrintWords Go.Proofs.YthmgabfhibkaiaaW.PrintLast Go.Proofs.YthmgabfhibkaiaaW.PrintMore
attribute [local go_sem] max2_int min2_int max_two min_two max_three min_three max_four min_four   -- for this text's walks alone
set_option linter.unusedVariables false
set_option linter.unusedSimpArgs false


open Go.Proofs.Ythmgabfhibkaiaa.Own
def gantletlaw07_awake.f : Option Bool := some true
set_option maxHeartbeats 8000000 in
set_option maxRecDepth 100000 in
theorem gantletlaw07_awake.any (w : World) :
    Calls Try.prog 11 #[] w fun e w' => e = .returned (.bool true) ∧ Below w.heap.size w w' := by
  have K1 : Aside0 (head_Get.f 40 (⟨#[48, 128]⟩ : ByteArray) 0 = some (0, 0, false, 0, 1, 4)) := ⟨by decide +kernel⟩
  have K2 : Aside0 (head_Get.f 40 (⟨#[2, 1]⟩ : ByteArray) 0 = some (0, 2, false, 1, 2, 0)) := ⟨by decide +kernel⟩
  have K3 : Aside0 (head_Get.f 40 (strOfNums [2]) 0 = some (0, 0, false, 0, 1, 2)) := ⟨by decide +kernel⟩
  have K4 : Aside0 (head_Get.f 40 (strOfNums [2, 1]) 0 = some (0, 2, false, 1, 2, 0)) := ⟨by decide +kernel⟩
  have K5 : Aside0 (head_Put.f 40 0 2 false 1 = some ((⟨#[2, 1]⟩ : ByteArray), 0)) := ⟨by decide +kernel⟩
  have HU := Aside0.mk (Upd.refl None0 w)
  have hu_ := Try.underlying23
  go_enter Try.func11, Try.ntmps11
  go_wp2_with (first
    | (go_at_call 12
       first
       | ((with_reducible refine (head_Get.calls 40 (⟨#[48, 128]⟩ : ByteArray) 0 0 0 false 0 1 4 _ K1.out).mono ?_)
          rintro e w1 ⟨rfl, hb⟩
          have hu := (Upd.of_below hb : Upd None0 _ _)
          replace HU := Aside0.mk (((by exact ul HU) : Upd None0 w _).trans hu (fun _ h => h.elim))
          clear hu)
       | ((with_reducible refine (head_Get.calls 40 (⟨#[2, 1]⟩ : ByteArray) 0 0 2 false 1 2 0 _ K2.out).mono ?_)
          rintro e w4 ⟨rfl, hb⟩
          have hu := (Upd.of_below hb : Upd None0 _ _)
          replace B_A := Aside0.mk (hu.blk (by exact bl B_A) (fun h => h))
          replace HU := Aside0.mk (((by exact ul HU) : Upd None0 w _).trans hu (fun _ h => h.elim))
          clear hu
          (try clear hc_A_0 hc_A_1 hc_A_2 hc_A_3)
          have hc_A_0 := co B_A 0 (.int .i64 0) rfl; have hc_A_1 := co B_A 1 (.int .i64 0) rfl; have hc_A_2 := co B_A 2 (.bool false) rfl; have hc_A_3 := co B_A 3 (.int .i64 0) rfl))
    | ((with_reducible refine gate_dst (N := 1) rfl ?_)
       refine boxnew ?hg (N := 1) ?hd (cs := #[.int .i64 0, .int .i64 0, .bool false, .int .i64 0]) (t := 23) ?hr ?_; (case hd => rfl); (case hg => rfl); (case hr => first | (go_simp; done) | (go_simp; rfl))
       intro g_A hge w2 hbox hu
       have GE_A := Aside0.mk (Nat.le_trans ((by exact ul HU) : Upd None0 w _).size hge)
       replace HU := Aside0.mk (((by exact ul HU) : Upd None0 w _).trans hu (fun _ h => h.elim))
       clear hu
       have B_A := Aside0.mk hbox; clear hbox hge
       have hc_A_0 := co B_A 0 (.int .i64 0) rfl; have hc_A_1 := co B_A 1 (.int .i64 0) rfl; have hc_A_2 := co B_A 2 (.bool false) rfl; have hc_A_3 := co B_A 3 (.int .i64 0) rfl)
    | ((with_reducible refine gate_store (t := 23) (p := 1) (v := .tmp 18) rfl ?_)
       refine rowput rfl 23 (.tmp 1) (.tmp 18) rfl rfl g_A #[.int .i64 0, .int .i64 0, .bool false, .int .i64 0] rfl rfl 23 #[.int .i64 0, .int .i64 0, .bool false, .int .i64 0] (by exact bl B_A) (by kernel_rfl) rfl (by simp [Value.oneCell']) ?_
       intro w3 hbox hu
       replace HU := Aside0.mk (((by exact ul HU) : Upd None0 w _).trans hu (fun k hk => .inr (by rw [hk]; exact GE_A.out)))
       clear hu
       clear B_A; have B_A := Aside0.mk hbox; clear hbox
       (try clear hc_A_0 hc_A_1 hc_A_2 hc_A_3)
       have hc_A_0 := co B_A 0 (.int .i64 0) rfl; have hc_A_1 := co B_A 1 (.int .i64 0) rfl; have hc_A_2 := co B_A 2 (.bool false) rfl; have hc_A_3 := co B_A 3 (.int .i64 0) rfl)
    | ((with_reducible refine gate_dst (N := 4) rfl ?_)
       refine boxnew ?hg (N := 4) ?hd (cs := #[.int .i64 0, .int .i64 0, .bool false, .int .i64 0]) (t := 23) ?hr ?_; (case hd => rfl); (case hg => rfl); (case hr => first | (go_simp; done) | (go_simp; rfl))
       intro g_B hge w5 hbox hu
       have NE_A_B := Aside0.mk (blk_fresh (by exact bl B_A) hge)
       have GE_B := Aside0.mk (Nat.le_trans ((by exact ul HU) : Upd None0 w _).size hge)
       replace B_A := Aside0.mk (hu.blk (by exact bl B_A) (fun h => h))
       replace HU := Aside0.mk (((by exact ul HU) : Upd None0 w _).trans hu (fun _ h => h.elim))
       clear hu
       have B_B := Aside0.mk hbox; clear hbox hge
       (try clear hc_A_0 hc_A_1 hc_A_2 hc_A_3)
       have hc_A_0 := co B_A 0 (.int .i64 0) rfl; have hc_A_1 := co B_A 1 (.int .i64 0) rfl; have hc_A_2 := co B_A 2 (.bool false) rfl; have hc_A_3 := co B_A 3 (.int .i64 0) rfl; have hc_B_0 := co B_B 0 (.int .i64 0) rfl; have hc_B_1 := co B_B 1 (.int .i64 0) rfl; have hc_B_2 := co B_B 2 (.bool false) rfl; have hc_B_3 := co B_B 3 (.int .i64 0) rfl)
    | ((with_reducible refine gate_store (t := 23) (p := 4) (v := .tmp 23) rfl ?_)
       refine rowput rfl 23 (.tmp 4) (.tmp 23) rfl rfl g_B #[.int .i64 0, .int .i64 2, .bool false, .int .i64 1] rfl rfl 23 #[.int .i64 0, .int .i64 0, .bool false, .int .i64 0] (by exact bl B_B) (by kernel_rfl) rfl (by simp [Value.oneCell']) ?_
       intro w6 hbox hu
       replace B_A := Aside0.mk (hu.blk (by exact bl B_A) NE_A_B.out)
       replace HU := Aside0.mk (((by exact ul HU) : Upd None0 w _).trans hu (fun k hk => .inr (by rw [hk]; exact GE_B.out)))
       clear hu
       clear B_B; have B_B := Aside0.mk hbox; clear hbox
       (try clear hc_A_0 hc_A_1 hc_A_2 hc_A_3 hc_B_0 hc_B_1 hc_B_2 hc_B_3)
       have hc_A_0 := co B_A 0 (.int .i64 0) rfl; have hc_A_1 := co B_A 1 (.int .i64 0) rfl; have hc_A_2 := co B_A 2 (.bool false) rfl; have hc_A_3 := co B_A 3 (.int .i64 0) rfl; have hc_B_0 := co B_B 0 (.int .i64 0) rfl; have hc_B_1 := co B_B 1 (.int .i64 2) rfl; have hc_B_2 := co B_B 2 (.bool false) rfl; have hc_B_3 := co B_B 3 (.int .i64 1) rfl)
    | (go_at_call 14
       (with_reducible refine (reader_new _).mono ?_)
       rintro e w7 ⟨g, rfl, hs, hu0⟩
       have hs1 := hs.mono (fun k hk => hk.elim (fun h => h.elim) (fun h => (.inr (Nat.le_trans ((by exact ul HU) : Upd None0 w _).size h) : New w None0 k)))
       clear hs
       have hu := (hu0 : Upd None0 _ _)
       replace B_A := Aside0.mk (hu.blk (by exact bl B_A) (fun h => h))
       replace B_B := Aside0.mk (hu.blk (by exact bl B_B) (fun h => h))
       replace HU := Aside0.mk (((by exact ul HU) : Upd None0 w _).trans hu (fun _ h => h.elim))
       clear hu
       have P_S := Aside0.mk hs1; clear hs1
       (try clear hc_A_0 hc_A_1 hc_A_2 hc_A_3 hc_B_0 hc_B_1 hc_B_2 hc_B_3)
       have hc_A_0 := co B_A 0 (.int .i64 0) rfl; have hc_A_1 := co B_A 1 (.int .i64 0) rfl; have hc_A_2 := co B_A 2 (.bool false) rfl; have hc_A_3 := co B_A 3 (.int .i64 0) rfl; have hc_B_0 := co B_B 0 (.int .i64 0) rfl; have hc_B_1 := co B_B 1 (.int .i64 2) rfl; have hc_B_2 := co B_B 2 (.bool false) rfl; have hc_B_3 := co B_B 3 (.int .i64 1) rfl)
    | (go_at_call 15
       first
       | ((with_reducible refine (reader_cut 40 g [] [2] 2 0 0 false 0 1 0 _ _ (Rd.bnd (by exact P_S.out.updN lu)) (by decide) rfl K3.out).mono ?_)
          rintro e w8 ⟨rfl, hs, hu⟩
          have hs2 := hs.mono (fun k hk => hk.elim (fun h => h.1) (fun h => .inr (Nat.le_trans ((by exact ul HU) : Upd None0 w _).size h)))
          replace B_A := Aside0.mk (hu.blk (by exact bl B_A) (Bnd.ne (by exact bl B_A) (by decide)))
          replace B_B := Aside0.mk (hu.blk (by exact bl B_B) (Bnd.ne (by exact bl B_B) (by decide)))
          replace HU := Aside0.mk (((by exact ul HU) : Upd None0 w _).trans hu (fun k hk => hk.1))
          clear hu
          clear P_S hs; have P_S := Aside0.mk hs2; clear hs2
          (try clear hc_A_0 hc_A_1 hc_A_2 hc_A_3 hc_B_0 hc_B_1 hc_B_2 hc_B_3)
          have hc_A_0 := co B_A 0 (.int .i64 0) rfl; have hc_A_1 := co B_A 1 (.int .i64 0) rfl; have hc_A_2 := co B_A 2 (.bool false) rfl; have hc_A_3 := co B_A 3 (.int .i64 0) rfl; have hc_B_0 := co B_B 0 (.int .i64 0) rfl; have hc_B_1 := co B_B 1 (.int .i64 2) rfl; have hc_B_2 := co B_B 2 (.bool false) rfl; have hc_B_3 := co B_B 3 (.int .i64 1) rfl)
       | ((with_reducible refine (reader_ok 40 g [2] [2, 1] 1 0 2 false 1 2 0 _ _ (Rd.bnd (by exact P_S.out.updN lu)) (by decide) rfl K4.out).mono ?_)
          rintro e w11 ⟨rfl, hs, hu⟩
          have hs2 := hs.mono (fun k hk => hk.elim (fun h => h.1) (fun h => .inr (Nat.le_trans ((by exact ul HU) : Upd None0 w _).size h)))
          replace B_A := Aside0.mk (hu.blk (by exact bl B_A) (Bnd.ne (by exact bl B_A) (by decide)))
          replace B_B := Aside0.mk (hu.blk (by exact bl B_B) (Bnd.ne (by exact bl B_B) (by decide)))
          replace B_C := Aside0.mk (hu.blk (by exact bl B_C) (Bnd.ne (by exact bl B_C) (by decide)))
          replace HU := Aside0.mk (((by exact ul HU) : Upd None0 w _).trans hu (fun k hk => hk.1))
          clear hu
          clear P_S hs; have P_S := Aside0.mk hs2; clear hs2
          (try clear hc_A_0 hc_A_1 hc_A_2 hc_A_3 hc_B_0 hc_B_1 hc_B_2 hc_B_3 hc_C_0 hc_C_1 hc_C_2 hc_C_3)
          have hc_A_0 := co B_A 0 (.int .i64 0) rfl; have hc_A_1 := co B_A 1 (.int .i64 0) rfl; have hc_A_2 := co B_A 2 (.bool false) rfl; have hc_A_3 := co B_A 3 (.int .i64 0) rfl; have hc_B_0 := co B_B 0 (.int .i64 0) rfl; have hc_B_1 := co B_B 1 (.int .i64 2) rfl; have hc_B_2 := co B_B 2 (.bool false) rfl; have hc_B_3 := co B_B 3 (.int .i64 1) rfl; have hc_C_0 := co B_C 0 (.int .i64 0) rfl; have hc_C_1 := co B_C 1 (.int .i64 0) rfl; have hc_C_2 := co B_C 2 (.bool false) rfl; have hc_C_3 := co B_C 3 (.int .i64 0) rfl))
    | ((with_reducible refine gate_dst (N := 8) rfl ?_)
       refine boxnew ?hg (N := 8) ?hd (cs := #[.int .i64 0, .int .i64 0, .bool false, .int .i64 0]) (t := 23) ?hr ?_; (case hd => rfl); (case hg => rfl); (case hr => first | (go_simp; done) | (go_simp; rfl))
       intro g_C hge w9 hbox hu
       have NE_A_C := Aside0.mk (blk_fresh (by exact bl B_A) hge)
       have NE_B_C := Aside0.mk (blk_fresh (by exact bl B_B) hge)
       have GE_C := Aside0.mk (Nat.le_trans ((by exact ul HU) : Upd None0 w _).size hge)
       replace B_A := Aside0.mk (hu.blk (by exact bl B_A) (fun h => h))
       replace B_B := Aside0.mk (hu.blk (by exact bl B_B) (fun h => h))
       replace P_S := Aside0.mk (Rd.updN (by exact P_S.out.updN lu) hu)
       replace HU := Aside0.mk (((by exact ul HU) : Upd None0 w _).trans hu (fun _ h => h.elim))
       clear hu
       have B_C := Aside0.mk hbox; clear hbox hge
       (try clear hc_A_0 hc_A_1 hc_A_2 hc_A_3 hc_B_0 hc_B_1 hc_B_2 hc_B_3)
       have hc_A_0 := co B_A 0 (.int .i64 0) rfl; have hc_A_1 := co B_A 1 (.int .i64 0) rfl; have hc_A_2 := co B_A 2 (.bool false) rfl; have hc_A_3 := co B_A 3 (.int .i64 0) rfl; have hc_B_0 := co B_B 0 (.int .i64 0) rfl; have hc_B_1 := co B_B 1 (.int .i64 2) rfl; have hc_B_2 := co B_B 2 (.bool false) rfl; have hc_B_3 := co B_B 3 (.int .i64 1) rfl; have hc_C_0 := co B_C 0 (.int .i64 0) rfl; have hc_C_1 := co B_C 1 (.int .i64 0) rfl; have hc_C_2 := co B_C 2 (.bool false) rfl; have hc_C_3 := co B_C 3 (.int .i64 0) rfl)
    | ((with_reducible refine gate_store (t := 23) (p := 8) (v := .tmp 32) rfl ?_)
       refine rowput rfl 23 (.tmp 8) (.tmp 32) rfl rfl g_C #[.int .i64 0, .int .i64 0, .bool false, .int .i64 0] rfl rfl 23 #[.int .i64 0, .int .i64 0, .bool false, .int .i64 0] (by exact bl B_C) (by kernel_rfl) rfl (by simp [Value.oneCell']) ?_
       intro w10 hbox hu
       replace B_A := Aside0.mk (hu.blk (by exact bl B_A) NE_A_C.out)
       replace B_B := Aside0.mk (hu.blk (by exact bl B_B) NE_B_C.out)
       replace P_S := Aside0.mk (Rd.updT (by exact P_S.out.updN lu) (by exact bl B_C) (by decide) hu)
       replace HU := Aside0.mk (((by exact ul HU) : Upd None0 w _).trans hu (fun k hk => .inr (by rw [hk]; exact GE_C.out)))
       clear hu
       clear B_C; have B_C := Aside0.mk hbox; clear hbox
       (try clear hc_A_0 hc_A_1 hc_A_2 hc_A_3 hc_B_0 hc_B_1 hc_B_2 hc_B_3 hc_C_0 hc_C_1 hc_C_2 hc_C_3)
       have hc_A_0 := co B_A 0 (.int .i64 0) rfl; have hc_A_1 := co B_A 1 (.int .i64 0) rfl; have hc_A_2 := co B_A 2 (.bool false) rfl; have hc_A_3 := co B_A 3 (.int .i64 0) rfl; have hc_B_0 := co B_B 0 (.int .i64 0) rfl; have hc_B_1 := co B_B 1 (.int .i64 2) rfl; have hc_B_2 := co B_B 2 (.bool false) rfl; have hc_B_3 := co B_B 3 (.int .i64 1) rfl; have hc_C_0 := co B_C 0 (.int .i64 0) rfl; have hc_C_1 := co B_C 1 (.int .i64 0) rfl; have hc_C_2 := co B_C 2 (.bool false) rfl; have hc_C_3 := co B_C 3 (.int .i64 0) rfl)
    | ((with_reducible refine gate_dst (N := 11) rfl ?_)
       refine boxnew ?hg (N := 11) ?hd (cs := #[.int .i64 0, .int .i64 0, .bool false, .int .i64 0]) (t := 23) ?hr ?_; (case hd => rfl); (case hg => rfl); (case hr => first | (go_simp; done) | (go_simp; rfl))
       intro g_E hge w12 hbox hu
       have NE_A_E := Aside0.mk (blk_fresh (by exact bl B_A) hge)
       have NE_B_E := Aside0.mk (blk_fresh (by exact bl B_B) hge)
       have NE_C_E := Aside0.mk (blk_fresh (by exact bl B_C) hge)
       have GE_E := Aside0.mk (Nat.le_trans ((by exact ul HU) : Upd None0 w _).size hge)
       replace B_A := Aside0.mk (hu.blk (by exact bl B_A) (fun h => h))
       replace B_B := Aside0.mk (hu.blk (by exact bl B_B) (fun h => h))
       replace B_C := Aside0.mk (hu.blk (by exact bl B_C) (fun h => h))
       replace P_S := Aside0.mk (Rd.updN (by exact P_S.out.updN lu) hu)
       replace HU := Aside0.mk (((by exact ul HU) : Upd None0 w _).trans hu (fun _ h => h.elim))
       clear hu
       have B_E := Aside0.mk hbox; clear hbox hge
       (try clear hc_A_0 hc_A_1 hc_A_2 hc_A_3 hc_B_0 hc_B_1 hc_B_2 hc_B_3 hc_C_0 hc_C_1 hc_C_2 hc_C_3)
       have hc_A_0 := co B_A 0 (.int .i64 0) rfl; have hc_A_1 := co B_A 1 (.int .i64 0) rfl; have hc_A_2 := co B_A 2 (.bool false) rfl; have hc_A_3 := co B_A 3 (.int .i64 0) rfl; have hc_B_0 := co B_B 0 (.int .i64 0) rfl; have hc_B_1 := co B_B 1 (.int .i64 2) rfl; have hc_B_2 := co B_B 2 (.bool false) rfl; have hc_B_3 := co B_B 3 (.int .i64 1) rfl; have hc_C_0 := co B_C 0 (.int .i64 0) rfl; have hc_C_1 := co B_C 1 (.int .i64 0) rfl; have hc_C_2 := co B_C 2 (.bool false) rfl; have hc_C_3 := co B_C 3 (.int .i64 0) rfl; have hc_E_0 := co B_E 0 (.int .i64 0) rfl; have hc_E_1 := co B_E 1 (.int .i64 0) rfl; have hc_E_2 := co B_E 2 (.bool false) rfl; have hc_E_3 := co B_E 3 (.int .i64 0) rfl)
    | ((with_reducible refine gate_store (t := 23) (p := 11) (v := .tmp 38) rfl ?_)
       refine rowput rfl 23 (.tmp 11) (.tmp 38) rfl rfl g_E #[.int .i64 0, .int .i64 2, .bool false, .int .i64 1] rfl rfl 23 #[.int .i64 0, .int .i64 0, .bool false, .int .i64 0] (by exact bl B_E) (by kernel_rfl) rfl (by simp [Value.oneCell']) ?_
       intro w13 hbox hu
       replace B_A := Aside0.mk (hu.blk (by exact bl B_A) NE_A_E.out)
       replace B_B := Aside0.mk (hu.blk (by exact bl B_B) NE_B_E.out)
       replace B_C := Aside0.mk (hu.blk (by exact bl B_C) NE_C_E.out)
       replace P_S := Aside0.mk (Rd.updT (by exact P_S.out.updN lu) (by exact bl B_E) (by decide) hu)
       replace HU := Aside0.mk (((by exact ul HU) : Upd None0 w _).trans hu (fun k hk => .inr (by rw [hk]; exact GE_E.out)))
       clear hu
       clear B_E; have B_E := Aside0.mk hbox; clear hbox
       (try clear hc_A_0 hc_A_1 hc_A_2 hc_A_3 hc_B_0 hc_B_1 hc_B_2 hc_B_3 hc_C_0 hc_C_1 hc_C_2 hc_C_3 hc_E_0 hc_E_1 hc_E_2 hc_E_3)
       have hc_A_0 := co B_A 0 (.int .i64 0) rfl; have hc_A_1 := co B_A 1 (.int .i64 0) rfl; have hc_A_2 := co B_A 2 (.bool false) rfl; have hc_A_3 := co B_A 3 (.int .i64 0) rfl; have hc_B_0 := co B_B 0 (.int .i64 0) rfl; have hc_B_1 := co B_B 1 (.int .i64 2) rfl; have hc_B_2 := co B_B 2 (.bool false) rfl; have hc_B_3 := co B_B 3 (.int .i64 1) rfl; have hc_C_0 := co B_C 0 (.int .i64 0) rfl; have hc_C_1 := co B_C 1 (.int .i64 0) rfl; have hc_C_2 := co B_C 2 (.bool false) rfl; have hc_C_3 := co B_C 3 (.int .i64 0) rfl; have hc_E_0 := co B_E 0 (.int .i64 0) rfl; have hc_E_1 := co B_E 1 (.int .i64 2) rfl; have hc_E_2 := co B_E 2 (.bool false) rfl; have hc_E_3 := co B_E 3 (.int .i64 1) rfl)
    | (go_at_call 9
       (with_reducible refine (head_Put.calls 40 0 2 false 1 (⟨#[2, 1]⟩ : ByteArray) 0 _ K5.out).mono ?_)
       rintro e w14 ⟨rfl, hb⟩
       have hu := (Upd.of_below hb : Upd None0 _ _)
       replace B_A := Aside0.mk (hu.blk (by exact bl B_A) (fun h => h))
       replace B_B := Aside0.mk (hu.blk (by exact bl B_B) (fun h => h))
       replace B_C := Aside0.mk (hu.blk (by exact bl B_C) (fun h => h))
       replace B_E := Aside0.mk (hu.blk (by exact bl B_E) (fun h => h))
       replace P_S := Aside0.mk (Rd.updN (by exact P_S.out.updN lu) hu)
       replace HU := Aside0.mk (((by exact ul HU) : Upd None0 w _).trans hu (fun _ h => h.elim))
       clear hu
       (try clear hc_A_0 hc_A_1 hc_A_2 hc_A_3 hc_B_0 hc_B_1 hc_B_2 hc_B_3 hc_C_0 hc_C_1 hc_C_2 hc_C_3 hc_E_0 hc_E_1 hc_E_2 hc_E_3)
       have hc_A_0 := co B_A 0 (.int .i64 0) rfl; have hc_A_1 := co B_A 1 (.int .i64 0) rfl; have hc_A_2 := co B_A 2 (.bool false) rfl; have hc_A_3 := co B_A 3 (.int .i64 0) rfl; have hc_B_0 := co B_B 0 (.int .i64 0) rfl; have hc_B_1 := co B_B 1 (.int .i64 2) rfl; have hc_B_2 := co B_B 2 (.bool false) rfl; have hc_B_3 := co B_B 3 (.int .i64 1) rfl; have hc_C_0 := co B_C 0 (.int .i64 0) rfl; have hc_C_1 := co B_C 1 (.int .i64 0) rfl; have hc_C_2 := co B_C 2 (.bool false) rfl; have hc_C_3 := co B_C 3 (.int .i64 0) rfl; have hc_E_0 := co B_E 0 (.int .i64 0) rfl; have hc_E_1 := co B_E 1 (.int .i64 2) rfl; have hc_E_2 := co B_E 2 (.bool false) rfl; have hc_E_3 := co B_E 3 (.int .i64 1) rfl))
  go_ret
  exact ⟨rfl, Upd.below0 (by exact ul HU)⟩
theorem gantletlaw07_awake.calls (r : Bool) (w : World) (h : gantletlaw07_awake.f = some r) :
    Calls Try.prog 11 #[] w fun e w' => e = .returned (.bool r) ∧ Below w.heap.size w w' := by
  unfold gantletlaw07_awake.f at h
  obtain rfl := Option.some.inj h
  exact gantletlaw07_awake.any w

end Go.Proofs.Ythmgabfhibkaiaa.PB
