-- Written by a program of this session (print2, a turned print): not PRINTED BY print.sh
import Derived.Test.YtomaajagncjiiaaPCx6p4
import Derived.Test.YtomaajagncjiiaaBHd
namespace Go.Proofs.Ytomaajagncjiiaa.PC
open Go.RowKit Go.Proofs.YtomaajagncjiiaaW.PrintWords Go.Proofs.YtomaajagncjiiaaW.PrintLast Go.Proofs.YtomaajagncjiiaaW.PrintMore
attribute [local go_sem] max2_int min2_int max_two min_two max_three min_three max_four min_four   -- for this text's walks alone
set_option linter.unusedVariables false
set_option linter.unusedSimpArgs false


open Go.Proofs.Ytomaajagncjiiaa.Own
open Go.Proofs.Ytomaajagncjiiaa.BHd Go.Proofs.Ytomaajagncjiiaa.Hdm Go.Proofs.Ytomaajagncjiiaa.Idm
theorem begin_came (most : Nat) (s : St) (h : Hd) (he : (beginM most s h).2.2 = 0) : (beginM most s h).1.came = [] := by
  unfold beginM at he ⊢
  split
  · rename_i h1; rw [if_pos h1] at he; simp at he
  · rename_i h1
    rw [if_neg h1] at he
    split
    · split <;> rfl
    · rfl
theorem mach_step (g most : Nat) (s : St) (b : Int) (S : Nat → Prop) (w : World) (hM : Mc w S g most s s.came 0) (hl0 : 0 ≤ s.leaf) (hl1 : s.leaf ≤ 2305843009213693951) (hcl : s.came.length ≤ 900) (hb : Bytes (s.came ++ [b])) :
    Calls Try.prog 28 #[.pointer (some ⟨g, 0, none⟩), .int .u8 b] w fun e w' => ∃ v rc ro, e = .returned (.tuple #[v, .int .i64 (stepM most s b).2.2]) ∧ k36.R 36 w' 0 (New w None0) v (stepM most s b).2.1 ∧ Mc w' (New w S) g most (stepM most s b).1 rc ro ∧ ((stepM most s b).2.2 = 0 → rc = (stepM most s b).1.came ∧ ro = 0) ∧ Upd S w w' := by
  by_cases hlf : 0 < s.leaf
  · have e : stepM most s b = ((contentM s b).1, (contentM s b).2, 0) := by unfold stepM; rw [if_pos hlf]
    rw [e]
    exact (mach_stepA g most s b S w _ _ hM hlf hl1).mono fun _ _ ⟨v, h1, h2, h3, h4⟩ => ⟨v, _, _, h1, h2, h3, fun _ => ⟨rfl, rfl⟩, h4⟩
  obtain ⟨left, came, leaf, at_, begun, over⟩ := s
  simp only at hM hl0 hl1 hcl hb hlf
  have hz : leaf = 0 := by omega
  subst hz
  obtain ⟨⟨l2, e2⟩, he⟩ : ∃ q, Mxm.tk left = q := ⟨_, rfl⟩
  by_cases hz : e2 = 0
  · subst hz
    have hsz : (strOfNums (came ++ [b])).size = came.length + 1 := by rw [strOfNums_size]; simp
    have hgt := hget_ok (strOfNums (came ++ [b])) (by omega) 0 (by decide) (by omega) 5000 (by omega)
    rw [show (bytesOf (strOfNums (came ++ [b]))).drop (0 : Int).toNat = came ++ [b] by rw [BId.bytesOf_nums _ hb]; rfl] at hgt
    obtain ⟨⟨t1, t2, t3, t4, p, t6⟩, hr⟩ : ∃ q, hg (came ++ [b]) = q := ⟨_, rfl⟩
    rw [hr] at hgt
    have hdv : hd (came ++ [b]) = ⟨t1, t2, t3, t4⟩ := by unfold hd; rw [hr]
    have her : er (came ++ [b]) = t6 := by unfold er; rw [hr]
    by_cases h2 : t6 = 2
    · subst h2
      have e : stepM most ⟨left, came, 0, at_, begun, over⟩ b = (⟨l2, came ++ [b], 0, at_, begun, over⟩, [], 0) := by
        unfold stepM; rw [if_neg (by simp), if_neg (by simp [he]), if_pos her]; simp [takeM, he]
      rw [e]
      exact (mach_stepCut 5000 g most left l2 came _ 0 at_ begun over b 0 t1 t2 t3 t4 _ 0 S w hM rfl he rfl (by omega) hgt).mono fun _ _ ⟨v, h1, h2, h3, h4⟩ => ⟨v, _, _, h1, h2, h3, fun _ => ⟨rfl, rfl⟩, h4⟩
    by_cases h0 : t6 = 0
    · subst h0
      have hv := hg_back (came ++ [b]) t1 t2 t3 t4 p hb hr
      have e : stepM most ⟨left, came, 0, at_, begun, over⟩ b = beginM most ⟨l2, came ++ [b], 0, at_, begun, over⟩ ⟨t1, t2, t3, t4⟩ := by
        unfold stepM; rw [if_neg (by simp), if_neg (by simp [he]), if_neg (by rw [her]; decide), if_neg (by rw [her]; simp), hdv]; simp [takeM, he]
      rw [e]
      exact (mach_stepOk 5000 g most left l2 came _ 0 at_ begun over b 0 t1 t2 t3 t4 _ 0 S w hM rfl he rfl (by omega) hgt hv.1.2.1 hv.1.2.2).mono fun _ _ ⟨v, h1, h2, h3, h4⟩ => ⟨v, _, _, h1, h2, h3, fun hz => ⟨(begin_came _ _ _ hz).symm, rfl⟩, h4⟩
    · have e : stepM most ⟨left, came, 0, at_, begun, over⟩ b = (⟨l2, came ++ [b], 0, at_, begun, over⟩, [], t6) := by
        unfold stepM; rw [if_neg (by simp), if_neg (by simp [he]), if_neg (by rw [her]; exact h2), if_pos (by rw [her]; exact h0), her]; simp [takeM, he]
      rw [e]
      exact (mach_stepErr 5000 g most left l2 came _ 0 at_ begun over b 0 t1 t2 t3 t4 _ t6 S w hM rfl he rfl (by omega) hgt h0 h2).mono fun _ _ ⟨v, h1, h2, h3, h4⟩ => ⟨v, _, _, h1, h2, h3, fun hz => absurd hz h0, h4⟩
  · have e : stepM most ⟨left, came, 0, at_, begun, over⟩ b = (⟨l2, came, 0, at_, begun, over⟩, [], e2) := by
      unfold stepM; rw [if_neg (by simp), if_pos (by simp [he, hz])]; simp [takeM, he]
    rw [e]
    exact (mach_stepT 0 g most left l2 came came 0 at_ begun over b e2 0 0 false 0 0 0 S w hM rfl he hz).mono fun _ _ ⟨v, h1, h2, h3, h4⟩ => ⟨v, _, _, h1, h2, h3, fun hh => absurd hh hz, h4⟩
set_option maxHeartbeats 8000000 in
set_option maxRecDepth 100000 in
theorem mach_done0 (g most : Nat) (s : St) (S : Nat → Prop) (w : World) (rc : List Int) (ro : Int) (hM : Mc w S g most s rc ro) (hbg : s.begun = false) :
    Calls Try.prog 21 #[.pointer (some ⟨g, 0, none⟩)] w fun e w' => e = .returned (.bool false) ∧ w = w' := by
  obtain ⟨gs, gr, v, hb, hg, hk, hr⟩ := hM.blk
  obtain ⟨A0, c0, rfl⟩ := Kd.R_slice hr
  have HK := Aside0.mk hk

  have hc0 : w.cell? ⟨g, 0, none⟩ = some (.pointer (some ⟨gs, 0, none⟩)) := (blk_cell hb 0).trans rfl
  have hc2 : w.cell? ⟨g, 2, none⟩ = some (.slice A0 s.came.length c0) := (blk_cell hb 2).trans rfl
  have hc3 : w.cell? ⟨g, 3, none⟩ = some (.int .i64 s.leaf) := (blk_cell hb 3).trans rfl
  have hc5 : w.cell? ⟨g, 5, none⟩ = some (.bool false) := (blk_cell hb 5).trans (by rw [hbg]; rfl)
  clear hb hM hg hk hr
  go_enter Try.func21, Try.ntmps21
  go_wp2_with (first
    | (go_at_call 30
       (with_reducible refine (stack_depth gs most s.left S _ HK.out).mono ?_)
       rintro e w1 ⟨rfl, rfl⟩))
  go_ret
  exact ⟨rfl, rfl⟩

set_option maxHeartbeats 8000000 in
set_option maxRecDepth 100000 in
theorem mach_done1 (g most : Nat) (s : St) (S : Nat → Prop) (w : World) (rc : List Int) (ro : Int) (hM : Mc w S g most s rc ro) (hbg : s.begun = true) (h1 : s.left.length ≠ 0) :
    Calls Try.prog 21 #[.pointer (some ⟨g, 0, none⟩)] w fun e w' => e = .returned (.bool false) ∧ w = w' := by
  obtain ⟨gs, gr, v, hb, hg, hk, hr⟩ := hM.blk
  obtain ⟨A0, c0, rfl⟩ := Kd.R_slice hr
  have HK := Aside0.mk hk
  have c1 : ((s.left.length : Int) == 0) = false := by rw [beq_eq_false_iff_ne]; omega
  clear h1
  have hc0 : w.cell? ⟨g, 0, none⟩ = some (.pointer (some ⟨gs, 0, none⟩)) := (blk_cell hb 0).trans rfl
  have hc2 : w.cell? ⟨g, 2, none⟩ = some (.slice A0 s.came.length c0) := (blk_cell hb 2).trans rfl
  have hc3 : w.cell? ⟨g, 3, none⟩ = some (.int .i64 s.leaf) := (blk_cell hb 3).trans rfl
  have hc5 : w.cell? ⟨g, 5, none⟩ = some (.bool true) := (blk_cell hb 5).trans (by rw [hbg]; rfl)
  clear hb hM hg hk hr
  go_enter Try.func21, Try.ntmps21
  go_wp2_with (first
    | (go_at_call 30
       (with_reducible refine (stack_depth gs most s.left S _ HK.out).mono ?_)
       rintro e w1 ⟨rfl, rfl⟩))
  go_ret
  exact ⟨rfl, rfl⟩

set_option maxHeartbeats 8000000 in
set_option maxRecDepth 100000 in
theorem mach_done2 (g most : Nat) (s : St) (S : Nat → Prop) (w : World) (rc : List Int) (ro : Int) (hM : Mc w S g most s rc ro) (hbg : s.begun = true) (h1 : s.left.length = 0) (h2 : s.leaf ≠ 0) :
    Calls Try.prog 21 #[.pointer (some ⟨g, 0, none⟩)] w fun e w' => e = .returned (.bool false) ∧ w = w' := by
  obtain ⟨gs, gr, v, hb, hg, hk, hr⟩ := hM.blk
  obtain ⟨A0, c0, rfl⟩ := Kd.R_slice hr
  have HK := Aside0.mk hk
  have c1 : ((s.left.length : Int) == 0) = true := by rw [beq_iff_eq]; omega
  have c2 : (s.leaf == 0) = false := beq_eq_false_iff_ne.2 h2
  clear h1 h2
  have hc0 : w.cell? ⟨g, 0, none⟩ = some (.pointer (some ⟨gs, 0, none⟩)) := (blk_cell hb 0).trans rfl
  have hc2 : w.cell? ⟨g, 2, none⟩ = some (.slice A0 s.came.length c0) := (blk_cell hb 2).trans rfl
  have hc3 : w.cell? ⟨g, 3, none⟩ = some (.int .i64 s.leaf) := (blk_cell hb 3).trans rfl
  have hc5 : w.cell? ⟨g, 5, none⟩ = some (.bool true) := (blk_cell hb 5).trans (by rw [hbg]; rfl)
  clear hb hM hg hk hr
  go_enter Try.func21, Try.ntmps21
  go_wp2_with (first
    | (go_at_call 30
       (with_reducible refine (stack_depth gs most s.left S _ HK.out).mono ?_)
       rintro e w1 ⟨rfl, rfl⟩))
  go_ret
  exact ⟨rfl, rfl⟩

set_option maxHeartbeats 8000000 in
set_option maxRecDepth 100000 in
theorem mach_done3 (g most : Nat) (s : St) (S : Nat → Prop) (w : World) (rc : List Int) (ro : Int) (hM : Mc w S g most s rc ro) (hbg : s.begun = true) (h1 : s.left.length = 0) (h2 : s.leaf = 0) (h3 : s.came.length ≠ 0) :
    Calls Try.prog 21 #[.pointer (some ⟨g, 0, none⟩)] w fun e w' => e = .returned (.bool false) ∧ w = w' := by
  obtain ⟨gs, gr, v, hb, hg, hk, hr⟩ := hM.blk
  obtain ⟨A0, c0, rfl⟩ := Kd.R_slice hr
  have HK := Aside0.mk hk
  have c1 : ((s.left.length : Int) == 0) = true := by rw [beq_iff_eq]; omega
  have c2 : (s.leaf == 0) = true := beq_iff_eq.2 h2
  have c3 : ((s.came.length : Int) == 0) = false := by rw [beq_eq_false_iff_ne]; omega
  clear h1 h2 h3
  have hc0 : w.cell? ⟨g, 0, none⟩ = some (.pointer (some ⟨gs, 0, none⟩)) := (blk_cell hb 0).trans rfl
  have hc2 : w.cell? ⟨g, 2, none⟩ = some (.slice A0 s.came.length c0) := (blk_cell hb 2).trans rfl
  have hc3 : w.cell? ⟨g, 3, none⟩ = some (.int .i64 s.leaf) := (blk_cell hb 3).trans rfl
  have hc5 : w.cell? ⟨g, 5, none⟩ = some (.bool true) := (blk_cell hb 5).trans (by rw [hbg]; rfl)
  clear hb hM hg hk hr
  go_enter Try.func21, Try.ntmps21
  go_wp2_with (first
    | (go_at_call 30
       (with_reducible refine (stack_depth gs most s.left S _ HK.out).mono ?_)
       rintro e w1 ⟨rfl, rfl⟩))
  go_ret
  exact ⟨rfl, rfl⟩

set_option maxHeartbeats 8000000 in
set_option maxRecDepth 100000 in
theorem mach_done4 (g most : Nat) (s : St) (S : Nat → Prop) (w : World) (rc : List Int) (ro : Int) (hM : Mc w S g most s rc ro) (hbg : s.begun = true) (h1 : s.left.length = 0) (h2 : s.leaf = 0) (h3 : s.came.length = 0) :
    Calls Try.prog 21 #[.pointer (some ⟨g, 0, none⟩)] w fun e w' => e = .returned (.bool true) ∧ w = w' := by
  obtain ⟨gs, gr, v, hb, hg, hk, hr⟩ := hM.blk
  obtain ⟨A0, c0, rfl⟩ := Kd.R_slice hr
  have HK := Aside0.mk hk
  have c1 : ((s.left.length : Int) == 0) = true := by rw [beq_iff_eq]; omega
  have c2 : (s.leaf == 0) = true := beq_iff_eq.2 h2
  have c3 : ((s.came.length : Int) == 0) = true := by rw [beq_iff_eq]; omega
  clear h1 h2 h3
  have hc0 : w.cell? ⟨g, 0, none⟩ = some (.pointer (some ⟨gs, 0, none⟩)) := (blk_cell hb 0).trans rfl
  have hc2 : w.cell? ⟨g, 2, none⟩ = some (.slice A0 s.came.length c0) := (blk_cell hb 2).trans rfl
  have hc3 : w.cell? ⟨g, 3, none⟩ = some (.int .i64 s.leaf) := (blk_cell hb 3).trans rfl
  have hc5 : w.cell? ⟨g, 5, none⟩ = some (.bool true) := (blk_cell hb 5).trans (by rw [hbg]; rfl)
  clear hb hM hg hk hr
  go_enter Try.func21, Try.ntmps21
  go_wp2_with (first
    | (go_at_call 30
       (with_reducible refine (stack_depth gs most s.left S _ HK.out).mono ?_)
       rintro e w1 ⟨rfl, rfl⟩))
  go_ret
  exact ⟨rfl, rfl⟩

theorem mach_done (g most : Nat) (s : St) (S : Nat → Prop) (w : World) (rc : List Int) (ro : Int) (hM : Mc w S g most s rc ro) :
    Calls Try.prog 21 #[.pointer (some ⟨g, 0, none⟩)] w fun e w' => e = .returned (.bool (done s)) ∧ w = w' := by
  unfold done
  cases hbg : s.begun with
  | false => exact mach_done0 g most s S w rc ro hM hbg
  | true =>
    by_cases h1 : s.left.length = 0
    · by_cases h2 : s.leaf = 0
      · by_cases h3 : s.came.length = 0
        · rw [show (true && ((s.left.length : Int) == 0) && (s.leaf == 0) && ((s.came.length : Int) == 0)) = true by simp [h1, h2, h3]]
          exact mach_done4 g most s S w rc ro hM hbg h1 h2 h3
        · rw [show (true && ((s.left.length : Int) == 0) && (s.leaf == 0) && ((s.came.length : Int) == 0)) = false by simp; intro _ _ h; exact absurd (by simp [h]) h3]
          exact mach_done3 g most s S w rc ro hM hbg h1 h2 h3
      · rw [show (true && ((s.left.length : Int) == 0) && (s.leaf == 0) && ((s.came.length : Int) == 0)) = false by simp [h2]]
        exact mach_done2 g most s S w rc ro hM hbg h1 h2
    · rw [show (true && ((s.left.length : Int) == 0) && (s.leaf == 0) && ((s.came.length : Int) == 0)) = false by simp; intro h; exact absurd (by simp [h]) h1]
      exact mach_done1 g most s S w rc ro hM hbg h1


open Go.Proofs.Ytomaajagncjiiaa.Own
theorem Mc.opn {w : World} {S : Nat → Prop} {g most : Nat} {s : St} {rc : List Int} {ro : Int} (h : Mc w S g most s rc ro) : ∃ gs gr v, w.heap[g]? = some (.cells #[.pointer (some ⟨gs, 0, none⟩), .pointer (some ⟨gr, 0, none⟩), v, .int .i64 s.leaf, .int .i64 s.at_, .bool s.begun, .int .i64 s.over] 58 (0, 0)) ∧ S g ∧ Sk w S gs most s.left ∧ (Kd.int .u8).R 5 w 0 S v s.came ∧
    (∀ W (s' : St), s'.left = s.left → s'.came = s.came → Upd (fun k => k = g) w W → W.heap[g]? = some (.cells #[.pointer (some ⟨gs, 0, none⟩), .pointer (some ⟨gr, 0, none⟩), v, .int .i64 s'.leaf, .int .i64 s'.at_, .bool s'.begun, .int .i64 s'.over] 58 (0, 0)) → Mc W S g most s' rc ro) ∧
    (∀ W l', Sk W S gs most l' → Upd (Bnd w [70] S) w W → Mc W S g most { s with left := l' } rc ro) := by
  obtain ⟨gs, gr, v, S2, S3, hg, hb, hk, hr, hc, h2, h3, h23⟩ := h
  refine ⟨gs, gr, v, hb, hg, hk, row_mono hc h3, ?_, ?_⟩
  · intro W s' e1 e2 hu hb'
    exact ⟨gs, gr, v, S2, S3, hg, hb', by rw [e1]; exact hk.updT hb (by decide) hu, hr.updT hb (by decide) hu, by rw [e2]; exact row_updT hc hb (by decide) hu, h2, h3, h23⟩
  · intro W l' hk' hu
    exact ⟨gs, gr, v, S2, S3, hg, hu.blk hb (Bnd.ne hb (by decide)), hk', hr.updB hu (by decide), row_mono (row_upd (Bnd.row hc (E := 5 :: (Kd.int .u8).E) (fun _ h => h)) hu (fun k h1 h2 => bnd_apart (by decide) h1 h2)) Bnd.of, h2, h3, h23⟩
theorem mach_doneE (g most : Nat) (s : St) (d : Bool) (S : Nat → Prop) (w : World) (rc : List Int) (ro : Int) (hM : Mc w S g most s rc ro) (hd : done s = d) :
    Calls Try.prog 21 #[.pointer (some ⟨g, 0, none⟩)] w fun e w' => e = .returned (.bool d) ∧ w = w' := by
  subst hd
  exact mach_done g most s S w rc ro hM
theorem mach_stepE (g most : Nat) (s s1 : St) (x1 : List Ev) (e1 : Int) (b : Int) (S : Nat → Prop) (w : World) (hM : Mc w S g most s s.came 0) (hl0 : 0 ≤ s.leaf) (hl1 : s.leaf ≤ 2305843009213693951) (hcl : s.came.length ≤ 900) (hb : Idm.Bytes (s.came ++ [b])) (hs : stepM most s b = (s1, x1, e1)) :
    Calls Try.prog 28 #[.pointer (some ⟨g, 0, none⟩), .int .u8 b] w fun e w' => ∃ v rc ro, e = .returned (.tuple #[v, .int .i64 e1]) ∧ k36.R 36 w' 0 (New w None0) v x1 ∧ Mc w' (New w S) g most s1 rc ro ∧ (e1 = 0 → rc = s1.came ∧ ro = 0) ∧ Upd S w w' := by
  have h := mach_step g most s b S w hM hl0 hl1 hcl hb
  rw [hs] at h
  exact h
theorem exits_len (at_ : Int) : ∀ l : List Int, (exits at_ l).2.length ≤ l.length
  | [] => Nat.le_refl _
  | x :: r => by
    have := exits_len at_ r
    simp only [exits]
    split
    · simp; omega
    · simp
set_option maxHeartbeats 8000000 in
set_option maxRecDepth 100000 in
theorem mach_pushO (g most : Nat) (s : St) (b : Int) (S : Nat → Prop) (w : World) (rc : List Int) (ro : Int) (hM : Mc w S g most s rc ro) (ho : s.over ≠ 0) :
    Calls Try.prog 19 #[.pointer (some ⟨g, 0, none⟩), .int .u8 b] w fun e w' => e = .returned (.tuple #[.slice none 0 0, .int .i64 s.over]) ∧ Mc w' S g most s rc ro ∧ Upd S w w' := by
  have HM := Aside0.mk hM
  obtain ⟨gs, gr, v, hb, _⟩ := hM.opn
  have c1 : (s.over == 0) = false := beq_eq_false_iff_ne.2 ho
  have c2 : (s.over != 0) = true := bne_iff_ne.2 ho
  have hc6 : w.cell? ⟨g, 6, none⟩ = some (.int .i64 s.over) := (blk_cell hb 6).trans rfl
  clear hb hM ho
  go_enter Try.func19, Try.ntmps19
  go_wp2
  go_region
  go_wp2
  go_ret2
  exact ⟨rfl, HM.out.drew, (Upd.refl _ _).drew⟩
set_option maxHeartbeats 8000000 in
set_option maxRecDepth 100000 in
theorem mach_pushD (g most : Nat) (s : St) (b : Int) (S : Nat → Prop) (w : World) (rc : List Int) (ro : Int) (hM : Mc w S g most s rc ro) (ho : s.over = 0) (hd : done s = true) :
    Calls Try.prog 19 #[.pointer (some ⟨g, 0, none⟩), .int .u8 b] w fun e w' => e = .returned (.tuple #[.slice none 0 0, .int .i64 6]) ∧ Mc w' S g most { s with over := 6 } rc ro ∧ Upd S w w' := by
  have HM := Aside0.mk hM
  obtain ⟨gs, gr, v, hb, hg, _, _, hput, _⟩ := hM.opn
  have HP := Aside0.mk hput
  have HG := Aside0.mk hg
  have HD := Aside0.mk hd
  have BG := Aside0.mk hb
  have hc6 : w.cell? ⟨g, 6, none⟩ = some (.int .i64 0) := by rw [← ho]; exact (blk_cell hb 6).trans rfl
  clear hb hM ho hput hg hd
  go_enter Try.func19, Try.ntmps19
  go_wp2_with (first
    | (go_at_call 21
       (with_reducible refine (mach_doneE g most s true S _ rc ro HM.out HD.out).mono ?_)
       rintro e w1 ⟨rfl, rfl⟩)
    | ((with_reducible refine gate_store (t := 25) (p := 19) (v := .const (.int .i64 6)) rfl ?_)
       refine cellput rfl 25 (.tmp 19) (.const (.int .i64 6)) rfl rfl g 6 (.int .i64 6) rfl rfl 58 _ _ BG.out (by kernel_rfl) (by simp) rfl rfl ?_
       intro w1 hbox hu
       have Q1 := Aside0.mk (HP.out w1 { s with over := 6 } rfl rfl hu hbox)
       have Q2 := Aside0.mk (hu.mono (fun k hk => by rw [hk]; exact HG.out) : Upd S w w1)
       have hd6 : w1.cell? ⟨g, 6, none⟩ = some (.int .i64 6) := (blk_cell hbox 6).trans rfl
       clear hbox hu))
  go_region
  go_wp2
  go_ret2
  exact ⟨rfl, Q1.out.drew, Q2.out.drew⟩
set_option maxHeartbeats 8000000 in
set_option maxRecDepth 100000 in
theorem mach_pushE (g most : Nat) (s s1 : St) (x1 : List Ev) (e1 b : Int) (S : Nat → Prop) (w : World) (hM : Mc w S g most s s.came 0) (ho : s.over = 0) (hd : done s = false) (hl0 : 0 ≤ s.leaf) (hl1 : s.leaf ≤ 2305843009213693951) (hcl : s.came.length ≤ 900) (hb : Idm.Bytes (s.came ++ [b])) (hs : stepM most s b = (s1, x1, e1)) (he : e1 ≠ 0) :
    Calls Try.prog 19 #[.pointer (some ⟨g, 0, none⟩), .int .u8 b] w fun e w' => ∃ rc ro, e = .returned (.tuple #[.slice none 0 0, .int .i64 e1]) ∧ Mc w' (New w S) g most { s1 with over := e1 } rc ro ∧ Upd S w w' := by
  have HM := Aside0.mk hM
  obtain ⟨gs, gr, v, hb0, hg, _⟩ := hM.opn
  have HG := Aside0.mk hg
  have HD := Aside0.mk hd
  have HS := Aside0.mk hs
  have HB := Aside0.mk hb
  have HL := Aside0.mk (And.intro hl0 (And.intro hl1 hcl))
  have c1 : (e1 != 0) = true := bne_iff_ne.2 he
  have hc6 : w.cell? ⟨g, 6, none⟩ = some (.int .i64 0) := by rw [← ho]; exact (blk_cell hb0 6).trans rfl
  clear hb0 hM ho hg hd hs hb hl0 hl1 hcl he
  go_enter Try.func19, Try.ntmps19
  go_wp2_with (first
    | (go_at_call 21
       (with_reducible refine (mach_doneE g most s false S _ _ _ HM.out HD.out).mono ?_)
       rintro e w1 ⟨rfl, rfl⟩)
    | (go_at_call 28
       (with_reducible refine (mach_stepE g most s s1 x1 e1 b S _ HM.out HL.out.1 HL.out.2.1 HL.out.2.2 HB.out HS.out).mono ?_)
       rintro e w1 ⟨v1, rc1, ro1, rfl, h1, h2, h3, h4⟩
       obtain ⟨gs1, gr1, v2, hb1, hg1, _, _, hput, _⟩ := h2.opn
       have HP := Aside0.mk hput
       have BG := Aside0.mk hb1
       have Q4 := Aside0.mk h4
       clear h1 h2 h3 h4 hput hb1 hg1)
    | ((with_reducible refine gate_store (t := 25) (p := 40) (v := .tmp 38) rfl ?_)
       refine cellput rfl 25 (.tmp 40) (.tmp 38) rfl rfl g 6 (.int .i64 e1) rfl rfl 58 _ _ BG.out (by kernel_rfl) (by simp) rfl rfl ?_
       intro w2 hbox hu
       have Q1 := Aside0.mk (HP.out w2 { s1 with over := e1 } rfl rfl hu hbox)
       have Q2 := Aside0.mk (Q4.out.trans hu (fun k hk => by rw [hk]; exact .inl HG.out) : Upd S w w2)
       clear hbox hu))
  go_ret2
  exact ⟨_, _, rfl, Q1.out, Q2.out⟩


open Go.Proofs.Ytomaajagncjiiaa.Own
def cl (s : St) (l : List Int) : List Int × List Ev := if s.leaf = 0 ∧ s.came = [] then exits s.at_ l else (l, [])
theorem closeM_cl (s : St) : closeM s = ({ s with left := (cl s s.left).1, at_ := s.at_ + 1 }, (cl s s.left).2) := by
  unfold closeM cl
  split <;> rfl
theorem stack_leaveE (g most : Nat) (left l2 : List Int) (d : Bool) (S : Nat → Prop) (w : World) (hS : Sk w S g most left) (he : Mxm.lv left = (l2, d)) :
    Calls Try.prog 29 #[.pointer (some ⟨g, 0, none⟩)] w fun e w' => e = .returned (.bool d) ∧ Sk w' S g most l2 ∧ Upd S w w' := by
  have h := stack_leave g most left S w hS
  rw [he] at h
  exact h
set_option maxHeartbeats 16000000 in
set_option maxRecDepth 100000 in
theorem mach_pushS (g most : Nat) (s s1 : St) (x1 : List Ev) (b : Int) (S : Nat → Prop) (w : World) (hM : Mc w S g most s s.came 0) (ho : s.over = 0) (hd : done s = false) (hl0 : 0 ≤ s.leaf) (hl1 : s.leaf ≤ 2305843009213693951) (hcl : s.came.length ≤ 900) (hb : Idm.Bytes (s.came ++ [b])) (hs : stepM most s b = (s1, x1, 0)) (ha0 : 0 ≤ s1.at_) (ha1 : s1.at_ ≤ 1000000) (hx : x1.length ≤ 100) :
    Calls Try.prog 19 #[.pointer (some ⟨g, 0, none⟩), .int .u8 b] w fun e w' => ∃ v, e = .returned (.tuple #[v, .int .i64 0]) ∧ k36.R 36 w' 0 (New w None0) v (x1 ++ (closeM s1).2) ∧ Mc w' (New w S) g most (closeM s1).1 s1.came 0 ∧ Upd S w w' ∧ (x1 ++ (closeM s1).2).length ≤ 200 := by
  have HM := Aside0.mk hM
  obtain ⟨gs, gr, v, hb0, hg, _⟩ := hM.opn
  have HG := Aside0.mk hg
  have HD := Aside0.mk hd
  have HS := Aside0.mk hs
  have HB := Aside0.mk hb
  have HX := Aside0.mk hx
  have HL := Aside0.mk (And.intro hl0 (And.intro hl1 hcl))
  have hc6 : w.cell? ⟨g, 6, none⟩ = some (.int .i64 0) := by rw [← ho]; exact (blk_cell hb0 6).trans rfl
  clear hb0 hM ho hg hd hs hb hl0 hl1 hcl hx
  go_enter Try.func19, Try.ntmps19
  go_wp2_with (first
    | (go_at_call 21
       (with_reducible refine (mach_doneE g most s false S _ _ _ HM.out HD.out).mono ?_)
       rintro e w1 ⟨rfl, rfl⟩)
    | (go_at_call 28
       (with_reducible refine (mach_stepE g most s s1 x1 0 b S _ HM.out HL.out.1 HL.out.2.1 HL.out.2.2 HB.out HS.out).mono ?_)
       rintro e w1 ⟨v1, rc1, ro1, rfl, h1, h2, h3, h4⟩
       obtain ⟨rfl, rfl⟩ := h3 rfl
       obtain ⟨A0, c0, rfl⟩ := Kd.R_slice h1
       have M1 := Aside0.mk h2
       have R1 := Aside0.mk h1
       have U1 := Aside0.mk h4
       clear h1 h2 h3 h4))
  go_loopg [6] s1.left.length (fun gk v6 wr => ∃ (l1 : List Int) (xs : List Ev), Aside0 ((cl s1 l1).1 = (cl s1 s1.left).1 ∧ xs ++ (cl s1 l1).2 = x1 ++ (cl s1 s1.left).2 ∧ l1.length ≤ gk ∧ xs.length + l1.length ≤ x1.length + s1.left.length) ∧ Aside0 (k36.R 36 wr 0 (New w None0) v6 xs) ∧ Aside0 (Mc wr (New w S) g most { s1 with left := l1 } s1.came 0) ∧ Aside0 (Upd S w wr))
  case atStart => exact ⟨s1.left, x1, ⟨rfl, rfl, Nat.le_refl _, Nat.le_refl _⟩, R1, M1, U1⟩
  case round =>
    obtain ⟨l1, xs, HI, HR, HM1, HU1⟩ := hrel
    have hlen : s1.left.length ≤ 64 := by obtain ⟨_, _, _, _, _, hk0, _⟩ := M1.out.opn; obtain ⟨_, _, _, _, _, _, _, h1_, h2_, _⟩ := hk0; omega
    have HLEN := Aside0.mk hlen
    clear hlen R1 M1 U1 hc6
    obtain ⟨A1, c1, rfl⟩ := Kd.R_slice HR.out
    obtain ⟨gs, gr, v, hb1, _, hk1, hr1, hput1, hle1⟩ := HM1.out.opn
    obtain ⟨A2, c2, rfl⟩ := Kd.R_slice hr1
    have BG1 := Aside0.mk hb1
    have HP1 := Aside0.mk hput1
    have HLE := Aside0.mk hle1
    have HK := Aside0.mk hk1
    have hd0 : wr.cell? ⟨g, 0, none⟩ = some (.pointer (some ⟨gs, 0, none⟩)) := (blk_cell hb1 0).trans rfl
    have hd2 : wr.cell? ⟨g, 2, none⟩ = some (.slice A2 s1.came.length c2) := (blk_cell hb1 2).trans rfl
    have hd3 : wr.cell? ⟨g, 3, none⟩ = some (.int .i64 s1.leaf) := (blk_cell hb1 3).trans rfl
    have hd4 : wr.cell? ⟨g, 4, none⟩ = some (.int .i64 s1.at_) := (blk_cell hb1 4).trans rfl
    clear hb1 hk1 hr1 hput1 hle1 HM1
    by_cases z1 : s1.leaf = 0
    · have y1 : (s1.leaf == 0) = true := beq_iff_eq.2 z1
      by_cases z2 : s1.came.length = 0
      · have y2 : ((s1.came.length : Int) == 0) = true := by rw [beq_iff_eq]; omega
        have ecl : ∀ l, cl s1 l = exits s1.at_ l := fun l => by unfold cl; rw [if_pos ⟨z1, List.eq_nil_of_length_eq_zero z2⟩]
        have ECL := Aside0.mk ecl
        clear z1 z2 ecl
        obtain ⟨⟨l2, d⟩, hlv⟩ : ∃ q, Mxm.lv l1 = q := ⟨_, rfl⟩
        have HLV := Aside0.mk hlv
        cases d with
        | false =>
          have HE : Aside0 (xs = x1 ++ (closeM s1).2 ∧ { s1 with left := l2, at_ := s1.at_ + 1 } = (closeM s1).1) := ⟨by
            have h := HI.out
            rw [ECL.out, ECL.out] at h
            have h2 : exits s1.at_ l1 = (l1, []) ∧ l2 = l1 := by
              cases l1 with
              | nil => simp [Mxm.lv] at hlv; exact ⟨rfl, hlv⟩
              | cons x r =>
                by_cases hx0 : x = 0
                · simp [Mxm.lv, hx0] at hlv
                · simp [Mxm.lv, hx0] at hlv; exact ⟨by simp [exits, hx0], hlv.symm⟩
            obtain ⟨h2, rfl⟩ := h2
            rw [h2] at h
            obtain ⟨g1, g2, _⟩ := h
            rw [closeM_cl, ECL.out]
            refine ⟨by simpa using g2, ?_⟩
            simp only at g1
            rw [← g1]⟩
          clear hlv
          go_wp2_with (first
            | (go_at_call 29
               (with_reducible refine (stack_leaveE gs most l1 l2 false _ _ HK.out.bnd HLV.out).mono ?_)
               rintro e w5 ⟨rfl, hs, hu⟩
               have m5 := HLE.out _ _ (hs.mono Bnd.of) hu
               have HU5 := Aside0.mk (HU1.out.trans hu (fun k hk => hk.1) : Upd S w w5)
               have HR5 := Aside0.mk (row_mono (row_upd (Bnd.row HR.out (E := 36 :: k36.E) (fun _ h => h)) hu (fun k h1 h2 => bnd_apart (by decide) h1 h2)) Bnd.of)
               obtain ⟨gs5, gr5, v5, hb5, _, _, _, hput5, _⟩ := m5.opn
               have HP5 := Aside0.mk hput5
               have BG5 := Aside0.mk hb5
               have hd4 : w5.cell? ⟨g, 4, none⟩ = some (.int .i64 s1.at_) := (blk_cell hb5 4).trans rfl
               clear hs hu m5 hput5 hb5)
            | ((with_reducible refine gate_store (t := 3) (p := 76) (v := .tmp 74) rfl ?_)
               refine cellput rfl 3 (.tmp 76) (.tmp 74) rfl rfl g 4 (.int .i64 (s1.at_ + 1)) rfl rfl 58 _ _ BG5.out (by kernel_rfl) (by simp) rfl rfl ?_
               intro w6 hbox hu
               have Q1 := Aside0.mk (HP5.out w6 { s1 with left := l2, at_ := s1.at_ + 1 } rfl rfl hu hbox)
               have Q2 := Aside0.mk (HU5.out.trans hu (fun k hk => by rw [hk]; exact .inl HG.out) : Upd S w w6)
               have Q3 := Aside0.mk (row_updT HR5.out BG5.out (by decide) hu)
               clear hbox hu))
          go_ret2
          obtain ⟨e1_, e2_⟩ := HE.out
          exact ⟨_, rfl, by rw [← e1_]; exact Q3.out, by rw [← e2_]; exact Q1.out, Q2.out, by have := HI.out.2.2.2; have := HLEN.out; have := HX.out; have h7_ := congrArg List.length e1_; rw [List.length_append] at h7_; first | omega | (rw [List.length_append]; omega)⟩
        | true =>
          obtain ⟨r, rfl, rfl⟩ : ∃ r, l1 = 0 :: r ∧ r = l2 := by
            cases l1 with
            | nil => simp [Mxm.lv] at hlv
            | cons x r =>
              by_cases hx0 : x = 0
              · subst hx0; simp [Mxm.lv] at hlv; exact ⟨r, rfl, hlv⟩
              · simp [Mxm.lv, hx0] at hlv
          have HXL := Aside0.mk (show xs.length ≤ 10000 by have := HI.out.2.2.2; have := HLEN.out; have := HX.out; omega)
          obtain ⟨xs2, hxs2⟩ : ∃ q, xs ++ [ev 5 s1.at_ h0 0] = q := ⟨_, rfl⟩
          have HXS := Aside0.mk hxs2
          clear hlv hxs2
          go_wp2_with (first
            | (go_at_call 29
               (with_reducible refine (stack_leaveE gs most (0 :: r) r true _ _ HK.out.bnd HLV.out).mono ?_)
               rintro e w5 ⟨rfl, hs, hu⟩
               have m5 := HLE.out _ _ (hs.mono Bnd.of) hu
               have M5 := Aside0.mk m5
               have HU5 := Aside0.mk (HU1.out.trans hu (fun k hk => hk.1) : Upd S w w5)
               have HR5 := Aside0.mk (row_mono (row_upd (Bnd.row HR.out (E := 36 :: k36.E) (fun _ h => h)) hu (fun k h1 h2 => bnd_apart (by decide) h1 h2)) Bnd.of)
               obtain ⟨gs5, gr5, v5, hb5, _, _, _, _, _⟩ := m5.opn
               have hd4 : w5.cell? ⟨g, 4, none⟩ = some (.int .i64 s1.at_) := (blk_cell hb5 4).trans rfl
               clear hs hu m5 hb5)
            | ((with_reducible refine gate_builtin (b := .append) (xs := #[.tmp 62, .tmp 68]) rfl ?_); at_builtin
               refine row_append (k36) (S := (New w None0)) rfl (.tmp 62) (.tmp 68) 24 36 (.agg #[.int .i64 0, .int .i64 0, .int .i64 0, .int .i64 0, .bool false, .int .i64 0, .int .u8 0]) 56 rfl Try.underlying24 info36 rfl (by decide) (by omega) (.slice A1 xs.length c1) (xs) (ev 5 s1.at_ h0 0) [.int .i64 5, .int .i64 s1.at_, .int .i64 0, .int .i64 0, .bool false, .int .i64 0, .int .u8 0] rfl rfl ?aP ?aO ?aL xs2 HXS.out ?_
               (case aP => exact k36_mkM _ _ _ _); (case aO => exact HR5.out); (case aL => have := HXL.out; omega)
               intro v2 w6 ho hu
               have Q1 := Aside0.mk (M5.out.updR HR5.out (by decide) hu)
               have Q2 := Aside0.mk (HU5.out.trans hu (fun k hk => (row_at HR5.out hk).elim (fun h => h.elim) .inr) : Upd S w w6)
               have Q3 := Aside0.mk (row_mono ho (fun k hk => hk.elim id (fun h => (.inr (Nat.le_trans HU5.out.size h) : New w None0 k))))
               clear ho hu))
          go_roundg (gk - 1)
          case measure => have := HI.out.2.2.1; simp at this; omega
          case rel =>
            refine ⟨r, xs2, ⟨?_⟩, Q3, Q1, Q2⟩
            have h := HI.out
            have hx0 : exits s1.at_ (0 :: r) = ((exits s1.at_ r).1, ev 5 s1.at_ h0 0 :: (exits s1.at_ r).2) := by simp [exits]
            rw [ECL.out (0 :: r), hx0] at h
            rw [ECL.out r, ← HXS.out]
            obtain ⟨g1, g2, g3, g4⟩ := h
            simp only [List.length_cons] at g3 g4
            exact ⟨g1, by rw [← g2]; simp, by omega, by rw [List.length_append]; simp; omega⟩
      · have y2 : ((s1.came.length : Int) == 0) = false := by rw [beq_eq_false_iff_ne]; omega
        have HE : Aside0 (xs = x1 ++ (closeM s1).2 ∧ { s1 with left := l1, at_ := s1.at_ + 1 } = (closeM s1).1) := ⟨by
          have h := HI.out
          have hn : ¬ (s1.leaf = 0 ∧ s1.came = []) := fun hh => z2 (by simp [hh.2])
          have e1 : ∀ l, cl s1 l = (l, []) := fun l => by unfold cl; rw [if_neg hn]
          rw [e1, e1] at h
          rw [closeM_cl, e1]
          refine ⟨by simpa using h.2.1, ?_⟩
          rw [← h.1]⟩
        clear z1 z2
        go_wp2_with (first
          | ((with_reducible refine gate_store (t := 3) (p := 76) (v := .tmp 74) rfl ?_)
             refine cellput rfl 3 (.tmp 76) (.tmp 74) rfl rfl g 4 (.int .i64 (s1.at_ + 1)) rfl rfl 58 _ _ BG1.out (by kernel_rfl) (by simp) rfl rfl ?_
             intro w6 hbox hu
             have Q1 := Aside0.mk (HP1.out w6 { s1 with left := l1, at_ := s1.at_ + 1 } rfl rfl hu hbox)
             have Q2 := Aside0.mk (HU1.out.trans hu (fun k hk => by rw [hk]; exact .inl HG.out) : Upd S w w6)
             have Q3 := Aside0.mk (row_updT HR.out BG1.out (by decide) hu)
             clear hbox hu))
        go_ret2
        obtain ⟨e1_, e2_⟩ := HE.out
        exact ⟨_, rfl, by rw [← e1_]; exact Q3.out, by rw [← e2_]; exact Q1.out, Q2.out, by have := HI.out.2.2.2; have := HLEN.out; have := HX.out; have h7_ := congrArg List.length e1_; rw [List.length_append] at h7_; first | omega | (rw [List.length_append]; omega)⟩
    · have y1 : (s1.leaf == 0) = false := beq_eq_false_iff_ne.2 z1
      have HE : Aside0 (xs = x1 ++ (closeM s1).2 ∧ { s1 with left := l1, at_ := s1.at_ + 1 } = (closeM s1).1) := ⟨by
        have h := HI.out
        have hn : ¬ (s1.leaf = 0 ∧ s1.came = []) := fun hh => z1 hh.1
        have e1 : ∀ l, cl s1 l = (l, []) := fun l => by unfold cl; rw [if_neg hn]
        rw [e1, e1] at h
        rw [closeM_cl, e1]
        refine ⟨by simpa using h.2.1, ?_⟩
        rw [← h.1]⟩
      clear z1
      go_wp2_with (first
        | ((with_reducible refine gate_store (t := 3) (p := 76) (v := .tmp 74) rfl ?_)
           refine cellput rfl 3 (.tmp 76) (.tmp 74) rfl rfl g 4 (.int .i64 (s1.at_ + 1)) rfl rfl 58 _ _ BG1.out (by kernel_rfl) (by simp) rfl rfl ?_
           intro w6 hbox hu
           have Q1 := Aside0.mk (HP1.out w6 { s1 with left := l1, at_ := s1.at_ + 1 } rfl rfl hu hbox)
           have Q2 := Aside0.mk (HU1.out.trans hu (fun k hk => by rw [hk]; exact .inl HG.out) : Upd S w w6)
           have Q3 := Aside0.mk (row_updT HR.out BG1.out (by decide) hu)
           clear hbox hu))
      go_ret2
      obtain ⟨e1_, e2_⟩ := HE.out
      exact ⟨_, rfl, by rw [← e1_]; exact Q3.out, by rw [← e2_]; exact Q1.out, Q2.out, by have := HI.out.2.2.2; have := HLEN.out; have := HX.out; have h7_ := congrArg List.length e1_; rw [List.length_append] at h7_; first | omega | (rw [List.length_append]; omega)⟩
end Go.Proofs.Ytomaajagncjiiaa.PC
