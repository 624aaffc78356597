-- Written by a program of this session (print2, a turned print): not PRINTED BY print.sh
import Derived.Test.YtomaajagncjiiaaPBx7p4
import Derived.Test.YtomaajagncjiiaaBHd
namespace Go.Proofs.Ytomaajagncjiiaa.PB
open Go.RowKit Go.Proofs.YtomaajagncjiiaaW.PrintWords Go.Proofs.YtomaajagncjiiaaW.PrintLast Go.Proofs.YtomaajagncjiiaaW.PrintMore
attribute [local go_sem] max2_int min2_int max_two min_two max_three min_three max_four min_four   -- for this text's walks alone
set_option linter.unusedVariables false
set_option linter.unusedSimpArgs false


open Go.Proofs.Ytomaajagncjiiaa.Own
open Go.Proofs.Ytomaajagncjiiaa.BHd Go.Proofs.Ytomaajagncjiiaa.Hdm Go.Proofs.Ytomaajagncjiiaa.Idm
theorem begin_came (most : Nat) (s : St) (h : Hd) (he : (beginM most s h).2.2 = 0) : (beginM most s h).1.came = [] := by
  unfold beginM at he ⊢
  split
  · rename_i h1; rw [if_pos h1] at he; simp at he
  · rename_i h1
    rw [if_neg h1] at he
    split
    · split <;> rfl
    · rfl
theorem mach_step (g most : Nat) (s : St) (b : Int) (S : Nat → Prop) (w : World) (hM : Mc w S g most s s.came 0) (hl0 : 0 ≤ s.leaf) (hl1 : s.leaf ≤ 2305843009213693951) (hcl : s.came.length ≤ 900) (hb : Bytes (s.came ++ [b])) :
    Calls Try.prog 28 #[.pointer (some ⟨g, 0, none⟩), .int .u8 b] w fun e w' => ∃ v rc ro, e = .returned (.tuple #[v, .int .i64 (stepM most s b).2.2]) ∧ k36.R 36 w' 0 (New w None0) v (stepM most s b).2.1 ∧ Mc w' (New w S) g most (stepM most s b).1 rc ro ∧ ((stepM most s b).2.2 = 0 → rc = (stepM most s b).1.came ∧ ro = 0) ∧ Upd S w w' := by
  by_cases hlf : 0 < s.leaf
  · have e : stepM most s b = ((contentM s b).1, (contentM s b).2, 0) := by unfold stepM; rw [if_pos hlf]
    rw [e]
    exact (mach_stepA g most s b S w _ _ hM hlf hl1).mono fun _ _ ⟨v, h1, h2, h3, h4⟩ => ⟨v, _, _, h1, h2, h3, fun _ => ⟨rfl, rfl⟩, h4⟩
  obtain ⟨left, came, leaf, at_, begun, over⟩ := s
  simp only at hM hl0 hl1 hcl hb hlf
  have hz : leaf = 0 := by omega
  subst hz
  obtain ⟨⟨l2, e2⟩, he⟩ : ∃ q, Mxm.tk left = q := ⟨_, rfl⟩
  by_cases hz : e2 = 0
  · subst hz
    have hsz : (strOfNums (came ++ [b])).size = came.length + 1 := by rw [strOfNums_size]; simp
    have hgt := hget_ok (strOfNums (came ++ [b])) (by omega) 0 (by decide) (by omega) 5000 (by omega)
    rw [show (bytesOf (strOfNums (came ++ [b]))).drop (0 : Int).toNat = came ++ [b] by rw [BId.bytesOf_nums _ hb]; rfl] at hgt
    obtain ⟨⟨t1, t2, t3, t4, p, t6⟩, hr⟩ : ∃ q, hg (came ++ [b]) = q := ⟨_, rfl⟩
    rw [hr] at hgt
    have hdv : hd (came ++ [b]) = ⟨t1, t2, t3, t4⟩ := by unfold hd; rw [hr]
    have her : er (came ++ [b]) = t6 := by unfold er; rw [hr]
    by_cases h2 : t6 = 2
    · subst h2
      have e : stepM most ⟨left, came, 0, at_, begun, over⟩ b = (⟨l2, came ++ [b], 0, at_, begun, over⟩, [], 0) := by
        unfold stepM; rw [if_neg (by simp), if_neg (by simp [he]), if_pos her]; simp [takeM, he]
      rw [e]
      exact (mach_stepCut 5000 g most left l2 came _ 0 at_ begun over b 0 t1 t2 t3 t4 _ 0 S w hM rfl he rfl (by omega) hgt).mono fun _ _ ⟨v, h1, h2, h3, h4⟩ => ⟨v, _, _, h1, h2, h3, fun _ => ⟨rfl, rfl⟩, h4⟩
    by_cases h0 : t6 = 0
    · subst h0
      have hv := hg_back (came ++ [b]) t1 t2 t3 t4 p hb hr
      have e : stepM most ⟨left, came, 0, at_, begun, over⟩ b = beginM most ⟨l2, came ++ [b], 0, at_, begun, over⟩ ⟨t1, t2, t3, t4⟩ := by
        unfold stepM; rw [if_neg (by simp), if_neg (by simp [he]), if_neg (by rw [her]; decide), if_neg (by rw [her]; simp), hdv]; simp [takeM, he]
      rw [e]
      exact (mach_stepOk 5000 g most left l2 came _ 0 at_ begun over b 0 t1 t2 t3 t4 _ 0 S w hM rfl he rfl (by omega) hgt hv.1.2.1 hv.1.2.2).mono fun _ _ ⟨v, h1, h2, h3, h4⟩ => ⟨v, _, _, h1, h2, h3, fun hz => ⟨(begin_came _ _ _ hz).symm, rfl⟩, h4⟩
    · have e : stepM most ⟨left, came, 0, at_, begun, over⟩ b = (⟨l2, came ++ [b], 0, at_, begun, over⟩, [], t6) := by
        unfold stepM; rw [if_neg (by simp), if_neg (by simp [he]), if_neg (by rw [her]; exact h2), if_pos (by rw [her]; exact h0), her]; simp [takeM, he]
      rw [e]
      exact (mach_stepErr 5000 g most left l2 came _ 0 at_ begun over b 0 t1 t2 t3 t4 _ t6 S w hM rfl he rfl (by omega) hgt h0 h2).mono fun _ _ ⟨v, h1, h2, h3, h4⟩ => ⟨v, _, _, h1, h2, h3, fun hz => absurd hz h0, h4⟩
  · have e : stepM most ⟨left, came, 0, at_, begun, over⟩ b = (⟨l2, came, 0, at_, begun, over⟩, [], e2) := by
      unfold stepM; rw [if_neg (by simp), if_pos (by simp [he, hz])]; simp [takeM, he]
    rw [e]
    exact (mach_stepT 0 g most left l2 came came 0 at_ begun over b e2 0 0 false 0 0 0 S w hM rfl he hz).mono fun _ _ ⟨v, h1, h2, h3, h4⟩ => ⟨v, _, _, h1, h2, h3, fun hh => absurd hh hz, h4⟩
set_option maxHeartbeats 8000000 in
set_option maxRecDepth 100000 in
theorem mach_done0 (g most : Nat) (s : St) (S : Nat → Prop) (w : World) (rc : List Int) (ro : Int) (hM : Mc w S g most s rc ro) (hbg : s.begun = false) :
    Calls Try.prog 21 #[.pointer (some ⟨g, 0, none⟩)] w fun e w' => e = .returned (.bool false) ∧ w = w' := by
  obtain ⟨gs, gr, v, hb, hg, hk, hr⟩ := hM.blk
  obtain ⟨A0, c0, rfl⟩ := Kd.R_slice hr
  have HK := Aside0.mk hk

  have hc0 : w.cell? ⟨g, 0, none⟩ = some (.pointer (some ⟨gs, 0, none⟩)) := (blk_cell hb 0).trans rfl
  have hc2 : w.cell? ⟨g, 2, none⟩ = some (.slice A0 s.came.length c0) := (blk_cell hb 2).trans rfl
  have hc3 : w.cell? ⟨g, 3, none⟩ = some (.int .i64 s.leaf) := (blk_cell hb 3).trans rfl
  have hc5 : w.cell? ⟨g, 5, none⟩ = some (.bool false) := (blk_cell hb 5).trans (by rw [hbg]; rfl)
  clear hb hM hg hk hr
  go_enter Try.func21, Try.ntmps21
  go_wp2_with (first
    | (go_at_call 30
       (with_reducible refine (stack_depth gs most s.left S _ HK.out).mono ?_)
       rintro e w1 ⟨rfl, rfl⟩))
  go_ret
  exact ⟨rfl, rfl⟩

set_option maxHeartbeats 8000000 in
set_option maxRecDepth 100000 in
theorem mach_done1 (g most : Nat) (s : St) (S : Nat → Prop) (w : World) (rc : List Int) (ro : Int) (hM : Mc w S g most s rc ro) (hbg : s.begun = true) (h1 : s.left.length ≠ 0) :
    Calls Try.prog 21 #[.pointer (some ⟨g, 0, none⟩)] w fun e w' => e = .returned (.bool false) ∧ w = w' := by
  obtain ⟨gs, gr, v, hb, hg, hk, hr⟩ := hM.blk
  obtain ⟨A0, c0, rfl⟩ := Kd.R_slice hr
  have HK := Aside0.mk hk
  have c1 : ((s.left.length : Int) == 0) = false := by rw [beq_eq_false_iff_ne]; omega
  clear h1
  have hc0 : w.cell? ⟨g, 0, none⟩ = some (.pointer (some ⟨gs, 0, none⟩)) := (blk_cell hb 0).trans rfl
  have hc2 : w.cell? ⟨g, 2, none⟩ = some (.slice A0 s.came.length c0) := (blk_cell hb 2).trans rfl
  have hc3 : w.cell? ⟨g, 3, none⟩ = some (.int .i64 s.leaf) := (blk_cell hb 3).trans rfl
  have hc5 : w.cell? ⟨g, 5, none⟩ = some (.bool true) := (blk_cell hb 5).trans (by rw [hbg]; rfl)
  clear hb hM hg hk hr
  go_enter Try.func21, Try.ntmps21
  go_wp2_with (first
    | (go_at_call 30
       (with_reducible refine (stack_depth gs most s.left S _ HK.out).mono ?_)
       rintro e w1 ⟨rfl, rfl⟩))
  go_ret
  exact ⟨rfl, rfl⟩

set_option maxHeartbeats 8000000 in
set_option maxRecDepth 100000 in
theorem mach_done2 (g most : Nat) (s : St) (S : Nat → Prop) (w : World) (rc : List Int) (ro : Int) (hM : Mc w S g most s rc ro) (hbg : s.begun = true) (h1 : s.left.length = 0) (h2 : s.leaf ≠ 0) :
    Calls Try.prog 21 #[.pointer (some ⟨g, 0, none⟩)] w fun e w' => e = .returned (.bool false) ∧ w = w' := by
  obtain ⟨gs, gr, v, hb, hg, hk, hr⟩ := hM.blk
  obtain ⟨A0, c0, rfl⟩ := Kd.R_slice hr
  have HK := Aside0.mk hk
  have c1 : ((s.left.length : Int) == 0) = true := by rw [beq_iff_eq]; omega
  have c2 : (s.leaf == 0) = false := beq_eq_false_iff_ne.2 h2
  clear h1 h2
  have hc0 : w.cell? ⟨g, 0, none⟩ = some (.pointer (some ⟨gs, 0, none⟩)) := (blk_cell hb 0).trans rfl
  have hc2 : w.cell? ⟨g, 2, none⟩ = some (.slice A0 s.came.length c0) := (blk_cell hb 2).trans rfl
  have hc3 : w.cell? ⟨g, 3, none⟩ = some (.int .i64 s.leaf) := (blk_cell hb 3).trans rfl
  have hc5 : w.cell? ⟨g, 5, none⟩ = some (.bool true) := (blk_cell hb 5).trans (by rw [hbg]; rfl)
  clear hb hM hg hk hr
  go_enter Try.func21, Try.ntmps21
  go_wp2_with (first
    | (go_at_call 30
       (with_reducible refine (stack_depth gs most s.left S _ HK.out).mono ?_)
       rintro e w1 ⟨rfl, rfl⟩))
  go_ret
  exact ⟨rfl, rfl⟩

set_option maxHeartbeats 8000000 in
set_option maxRecDepth 100000 in
theorem mach_done3 (g most : Nat) (s : St) (S : Nat → Prop) (w : World) (rc : List Int) (ro : Int) (hM : Mc w S g most s rc ro) (hbg : s.begun = true) (h1 : s.left.length = 0) (h2 : s.leaf = 0) (h3 : s.came.length ≠ 0) :
    Calls Try.prog 21 #[.pointer (some ⟨g, 0, none⟩)] w fun e w' => e = .returned (.bool false) ∧ w = w' := by
  obtain ⟨gs, gr, v, hb, hg, hk, hr⟩ := hM.blk
  obtain ⟨A0, c0, rfl⟩ := Kd.R_slice hr
  have HK := Aside0.mk hk
  have c1 : ((s.left.length : Int) == 0) = true := by rw [beq_iff_eq]; omega
  have c2 : (s.leaf == 0) = true := beq_iff_eq.2 h2
  have c3 : ((s.came.length : Int) == 0) = false := by rw [beq_eq_false_iff_ne]; omega
  clear h1 h2 h3
  have hc0 : w.cell? ⟨g, 0, none⟩ = some (.pointer (some ⟨gs, 0, none⟩)) := (blk_cell hb 0).trans rfl
  have hc2 : w.cell? ⟨g, 2, none⟩ = some (.slice A0 s.came.length c0) := (blk_cell hb 2).trans rfl
  have hc3 : w.cell? ⟨g, 3, none⟩ = some (.int .i64 s.leaf) := (blk_cell hb 3).trans rfl
  have hc5 : w.cell? ⟨g, 5, none⟩ = some (.bool true) := (blk_cell hb 5).trans (by rw [hbg]; rfl)
  clear hb hM hg hk hr
  go_enter Try.func21, Try.ntmps21
  go_wp2_with (first
    | (go_at_call 30
       (with_reducible refine (stack_depth gs most s.left S _ HK.out).mono ?_)
       rintro e w1 ⟨rfl, rfl⟩))
  go_ret
  exact ⟨rfl, rfl⟩

set_option maxHeartbeats 8000000 in
set_option maxRecDepth 100000 in
theorem mach_done4 (g most : Nat) (s : St) (S : Nat → Prop) (w : World) (rc : List Int) (ro : Int) (hM : Mc w S g most s rc ro) (hbg : s.begun = true) (h1 : s.left.length = 0) (h2 : s.leaf = 0) (h3 : s.came.length = 0) :
    Calls Try.prog 21 #[.pointer (some ⟨g, 0, none⟩)] w fun e w' => e = .returned (.bool true) ∧ w = w' := by
  obtain ⟨gs, gr, v, hb, hg, hk, hr⟩ := hM.blk
  obtain ⟨A0, c0, rfl⟩ := Kd.R_slice hr
  have HK := Aside0.mk hk
  have c1 : ((s.left.length : Int) == 0) = true := by rw [beq_iff_eq]; omega
  have c2 : (s.leaf == 0) = true := beq_iff_eq.2 h2
  have c3 : ((s.came.length : Int) == 0) = true := by rw [beq_iff_eq]; omega
  clear h1 h2 h3
  have hc0 : w.cell? ⟨g, 0, none⟩ = some (.pointer (some ⟨gs, 0, none⟩)) := (blk_cell hb 0).trans rfl
  have hc2 : w.cell? ⟨g, 2, none⟩ = some (.slice A0 s.came.length c0) := (blk_cell hb 2).trans rfl
  have hc3 : w.cell? ⟨g, 3, none⟩ = some (.int .i64 s.leaf) := (blk_cell hb 3).trans rfl
  have hc5 : w.cell? ⟨g, 5, none⟩ = some (.bool true) := (blk_cell hb 5).trans (by rw [hbg]; rfl)
  clear hb hM hg hk hr
  go_enter Try.func21, Try.ntmps21
  go_wp2_with (first
    | (go_at_call 30
       (with_reducible refine (stack_depth gs most s.left S _ HK.out).mono ?_)
       rintro e w1 ⟨rfl, rfl⟩))
  go_ret
  exact ⟨rfl, rfl⟩

theorem mach_done (g most : Nat) (s : St) (S : Nat → Prop) (w : World) (rc : List Int) (ro : Int) (hM : Mc w S g most s rc ro) :
    Calls Try.prog 21 #[.pointer (some ⟨g, 0, none⟩)] w fun e w' => e = .returned (.bool (done s)) ∧ w = w' := by
  unfold done
  cases hbg : s.begun with
  | false => exact mach_done0 g most s S w rc ro hM hbg
  | true =>
    by_cases h1 : s.left.length = 0
    · by_cases h2 : s.leaf = 0
      · by_cases h3 : s.came.length = 0
        · rw [show (true && ((s.left.length : Int) == 0) && (s.leaf == 0) && ((s.came.length : Int) == 0)) = true by simp [h1, h2, h3]]
          exact mach_done4 g most s S w rc ro hM hbg h1 h2 h3
        · rw [show (true && ((s.left.length : Int) == 0) && (s.leaf == 0) && ((s.came.length : Int) == 0)) = false by simp; intro _ _ h; exact absurd (by simp [h]) h3]
          exact mach_done3 g most s S w rc ro hM hbg h1 h2 h3
      · rw [show (true && ((s.left.length : Int) == 0) && (s.leaf == 0) && ((s.came.length : Int) == 0)) = false by simp [h2]]
        exact mach_done2 g most s S w rc ro hM hbg h1 h2
    · rw [show (true && ((s.left.length : Int) == 0) && (s.leaf == 0) && ((s.came.length : Int) == 0)) = false by simp; intro h; exact absurd (by simp [h]) h1]
      exact mach_done1 g most s S w rc ro hM hbg h1
end Go.Proofs.Ytomaajagncjiiaa.PB
