-- Written by a program of this session (print2, a turned print): not PRINTED BY print.sh
import Derived.Test.YtomaajagncjiiaaPBx7p5
namespace Go.Proofs.Ytomaajagncjiiaa.PB
open Go.RowKit Go.Proofs.YtomaajagncjiiaaW.PrintWords Go.Proofs.YtomaajagncjiiaaW.PrintLast Go.Proofs.YtomaajagncjiiaaW.PrintMore
attribute [local go_sem] max2_int min2_int max_two min_two max_three min_three max_four min_four   -- for this text's walks alone
set_option linter.unusedVariables false
set_option linter.unusedSimpArgs false


open Go.Proofs.Ytomaajagncjiiaa.Own
theorem Mc.opn {w : World} {S : Nat → Prop} {g most : Nat} {s : St} {rc : List Int} {ro : Int} (h : Mc w S g most s rc ro) : ∃ gs gr v, w.heap[g]? = some (.cells #[.pointer (some ⟨gs, 0, none⟩), .pointer (some ⟨gr, 0, none⟩), v, .int .i64 s.leaf, .int .i64 s.at_, .bool s.begun, .int .i64 s.over] 58 (0, 0)) ∧ S g ∧ Sk w S gs most s.left ∧ (Kd.int .u8).R 5 w 0 S v s.came ∧
    (∀ W (s' : St), s'.left = s.left → s'.came = s.came → Upd (fun k => k = g) w W → W.heap[g]? = some (.cells #[.pointer (some ⟨gs, 0, none⟩), .pointer (some ⟨gr, 0, none⟩), v, .int .i64 s'.leaf, .int .i64 s'.at_, .bool s'.begun, .int .i64 s'.over] 58 (0, 0)) → Mc W S g most s' rc ro) ∧
    (∀ W l', Sk W S gs most l' → Upd (Bnd w [70] S) w W → Mc W S g most { s with left := l' } rc ro) := by
  obtain ⟨gs, gr, v, S2, S3, hg, hb, hk, hr, hc, h2, h3, h23⟩ := h
  refine ⟨gs, gr, v, hb, hg, hk, row_mono hc h3, ?_, ?_⟩
  · intro W s' e1 e2 hu hb'
    exact ⟨gs, gr, v, S2, S3, hg, hb', by rw [e1]; exact hk.updT hb (by decide) hu, hr.updT hb (by decide) hu, by rw [e2]; exact row_updT hc hb (by decide) hu, h2, h3, h23⟩
  · intro W l' hk' hu
    exact ⟨gs, gr, v, S2, S3, hg, hu.blk hb (Bnd.ne hb (by decide)), hk', hr.updB hu (by decide), row_mono (row_upd (Bnd.row hc (E := 5 :: (Kd.int .u8).E) (fun _ h => h)) hu (fun k h1 h2 => bnd_apart (by decide) h1 h2)) Bnd.of, h2, h3, h23⟩
theorem mach_doneE (g most : Nat) (s : St) (d : Bool) (S : Nat → Prop) (w : World) (rc : List Int) (ro : Int) (hM : Mc w S g most s rc ro) (hd : done s = d) :
    Calls Try.prog 21 #[.pointer (some ⟨g, 0, none⟩)] w fun e w' => e = .returned (.bool d) ∧ w = w' := by
  subst hd
  exact mach_done g most s S w rc ro hM
theorem mach_stepE (g most : Nat) (s s1 : St) (x1 : List Ev) (e1 : Int) (b : Int) (S : Nat → Prop) (w : World) (hM : Mc w S g most s s.came 0) (hl0 : 0 ≤ s.leaf) (hl1 : s.leaf ≤ 2305843009213693951) (hcl : s.came.length ≤ 900) (hb : Idm.Bytes (s.came ++ [b])) (hs : stepM most s b = (s1, x1, e1)) :
    Calls Try.prog 28 #[.pointer (some ⟨g, 0, none⟩), .int .u8 b] w fun e w' => ∃ v rc ro, e = .returned (.tuple #[v, .int .i64 e1]) ∧ k36.R 36 w' 0 (New w None0) v x1 ∧ Mc w' (New w S) g most s1 rc ro ∧ (e1 = 0 → rc = s1.came ∧ ro = 0) ∧ Upd S w w' := by
  have h := mach_step g most s b S w hM hl0 hl1 hcl hb
  rw [hs] at h
  exact h
theorem exits_len (at_ : Int) : ∀ l : List Int, (exits at_ l).2.length ≤ l.length
  | [] => Nat.le_refl _
  | x :: r => by
    have := exits_len at_ r
    simp only [exits]
    split
    · simp; omega
    · simp
set_option maxHeartbeats 8000000 in
set_option maxRecDepth 100000 in
theorem mach_pushO (g most : Nat) (s : St) (b : Int) (S : Nat → Prop) (w : World) (rc : List Int) (ro : Int) (hM : Mc w S g most s rc ro) (ho : s.over ≠ 0) :
    Calls Try.prog 19 #[.pointer (some ⟨g, 0, none⟩), .int .u8 b] w fun e w' => e = .returned (.tuple #[.slice none 0 0, .int .i64 s.over]) ∧ Mc w' S g most s rc ro ∧ Upd S w w' := by
  have HM := Aside0.mk hM
  obtain ⟨gs, gr, v, hb, _⟩ := hM.opn
  have c1 : (s.over == 0) = false := beq_eq_false_iff_ne.2 ho
  have c2 : (s.over != 0) = true := bne_iff_ne.2 ho
  have hc6 : w.cell? ⟨g, 6, none⟩ = some (.int .i64 s.over) := (blk_cell hb 6).trans rfl
  clear hb hM ho
  go_enter Try.func19, Try.ntmps19
  go_wp2
  go_region
  go_wp2
  go_ret2
  exact ⟨rfl, HM.out.drew, (Upd.refl _ _).drew⟩
set_option maxHeartbeats 8000000 in
set_option maxRecDepth 100000 in
theorem mach_pushD (g most : Nat) (s : St) (b : Int) (S : Nat → Prop) (w : World) (rc : List Int) (ro : Int) (hM : Mc w S g most s rc ro) (ho : s.over = 0) (hd : done s = true) :
    Calls Try.prog 19 #[.pointer (some ⟨g, 0, none⟩), .int .u8 b] w fun e w' => e = .returned (.tuple #[.slice none 0 0, .int .i64 6]) ∧ Mc w' S g most { s with over := 6 } rc ro ∧ Upd S w w' := by
  have HM := Aside0.mk hM
  obtain ⟨gs, gr, v, hb, hg, _, _, hput, _⟩ := hM.opn
  have HP := Aside0.mk hput
  have HG := Aside0.mk hg
  have HD := Aside0.mk hd
  have BG := Aside0.mk hb
  have hc6 : w.cell? ⟨g, 6, none⟩ = some (.int .i64 0) := by rw [← ho]; exact (blk_cell hb 6).trans rfl
  clear hb hM ho hput hg hd
  go_enter Try.func19, Try.ntmps19
  go_wp2_with (first
    | (go_at_call 21
       (with_reducible refine (mach_doneE g most s true S _ rc ro HM.out HD.out).mono ?_)
       rintro e w1 ⟨rfl, rfl⟩)
    | ((with_reducible refine gate_store (t := 25) (p := 19) (v := .const (.int .i64 6)) rfl ?_)
       refine cellput rfl 25 (.tmp 19) (.const (.int .i64 6)) rfl rfl g 6 (.int .i64 6) rfl rfl 58 _ _ BG.out (by kernel_rfl) (by simp) rfl rfl ?_
       intro w1 hbox hu
       have Q1 := Aside0.mk (HP.out w1 { s with over := 6 } rfl rfl hu hbox)
       have Q2 := Aside0.mk (hu.mono (fun k hk => by rw [hk]; exact HG.out) : Upd S w w1)
       have hd6 : w1.cell? ⟨g, 6, none⟩ = some (.int .i64 6) := (blk_cell hbox 6).trans rfl
       clear hbox hu))
  go_region
  go_wp2
  go_ret2
  exact ⟨rfl, Q1.out.drew, Q2.out.drew⟩
set_option maxHeartbeats 8000000 in
set_option maxRecDepth 100000 in
theorem mach_pushE (g most : Nat) (s s1 : St) (x1 : List Ev) (e1 b : Int) (S : Nat → Prop) (w : World) (hM : Mc w S g most s s.came 0) (ho : s.over = 0) (hd : done s = false) (hl0 : 0 ≤ s.leaf) (hl1 : s.leaf ≤ 2305843009213693951) (hcl : s.came.length ≤ 900) (hb : Idm.Bytes (s.came ++ [b])) (hs : stepM most s b = (s1, x1, e1)) (he : e1 ≠ 0) :
    Calls Try.prog 19 #[.pointer (some ⟨g, 0, none⟩), .int .u8 b] w fun e w' => ∃ rc ro, e = .returned (.tuple #[.slice none 0 0, .int .i64 e1]) ∧ Mc w' (New w S) g most { s1 with over := e1 } rc ro ∧ Upd S w w' := by
  have HM := Aside0.mk hM
  obtain ⟨gs, gr, v, hb0, hg, _⟩ := hM.opn
  have HG := Aside0.mk hg
  have HD := Aside0.mk hd
  have HS := Aside0.mk hs
  have HB := Aside0.mk hb
  have HL := Aside0.mk (And.intro hl0 (And.intro hl1 hcl))
  have c1 : (e1 != 0) = true := bne_iff_ne.2 he
  have hc6 : w.cell? ⟨g, 6, none⟩ = some (.int .i64 0) := by rw [← ho]; exact (blk_cell hb0 6).trans rfl
  clear hb0 hM ho hg hd hs hb hl0 hl1 hcl he
  go_enter Try.func19, Try.ntmps19
  go_wp2_with (first
    | (go_at_call 21
       (with_reducible refine (mach_doneE g most s false S _ _ _ HM.out HD.out).mono ?_)
       rintro e w1 ⟨rfl, rfl⟩)
    | (go_at_call 28
       (with_reducible refine (mach_stepE g most s s1 x1 e1 b S _ HM.out HL.out.1 HL.out.2.1 HL.out.2.2 HB.out HS.out).mono ?_)
       rintro e w1 ⟨v1, rc1, ro1, rfl, h1, h2, h3, h4⟩
       obtain ⟨gs1, gr1, v2, hb1, hg1, _, _, hput, _⟩ := h2.opn
       have HP := Aside0.mk hput
       have BG := Aside0.mk hb1
       have Q4 := Aside0.mk h4
       clear h1 h2 h3 h4 hput hb1 hg1)
    | ((with_reducible refine gate_store (t := 25) (p := 40) (v := .tmp 38) rfl ?_)
       refine cellput rfl 25 (.tmp 40) (.tmp 38) rfl rfl g 6 (.int .i64 e1) rfl rfl 58 _ _ BG.out (by kernel_rfl) (by simp) rfl rfl ?_
       intro w2 hbox hu
       have Q1 := Aside0.mk (HP.out w2 { s1 with over := e1 } rfl rfl hu hbox)
       have Q2 := Aside0.mk (Q4.out.trans hu (fun k hk => by rw [hk]; exact .inl HG.out) : Upd S w w2)
       clear hbox hu))
  go_ret2
  exact ⟨_, _, rfl, Q1.out, Q2.out⟩
end Go.Proofs.Ytomaajagncjiiaa.PB
