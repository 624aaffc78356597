/- What the row of GrammarFront stands on, made small by a program of this session (pack.py). -/
import Derived.Test.YtcfommconnlhgaaCGrammarFront2
import Derived.Test.YtcfommconnlhgaaCGrammarFront16
import Derived.Test.YtcfommconnlhgaaCGrammarFront17
namespace Go.Proofs.Ytcfommconnlhgaa.PC
open RowKit YtcfommconnlhgaaW.PrintWords YtcfommconnlhgaaW.PrintLast YtcfommconnlhgaaW.PrintMore
attribute [local go_sem] max2_int min2_int max_two min_two max_three min_three max_four min_four
set_option linter.unusedVariables false
set_option linter.unusedSimpArgs false
open Own
open BHd Hdm Idm
theorem begin_came (most : Nat) (s : St) (h : Hd) (he : (beginM most s h).2.2 = 0) : (beginM most s h).1.came = [] := by
 unfold beginM at he ⊢
 split
 ·
  rename_i h1; rw [if_pos h1] at he; simp at he
 ·
  rename_i h1
  rw [if_neg h1] at he
  split
  ·
   split <;> rfl
  ·
   rfl
theorem mach_step (g most : Nat) (s : St) (b : Int) (S : Nat → Prop) (w : World) (hM : Mc w S g most s s.came 0) (hl0 : 0 ≤ s.leaf) (hl1 : s.leaf ≤ 2305843009213693951) (hcl : s.came.length ≤ 900) (hb : Bytes (s.came ++ [b])) :
 Calls Try.prog 55 #[.pointer (some ⟨g, 0, none⟩), .int .u8 b] w fun e w' => ∃ v rc ro, e = .returned (.tuple #[v, .int .i64 (stepM most s b).2.2]) ∧ k34.R 34 w' 0 (New w None0) v (stepM most s b).2.1 ∧ Mc w' (New w S) g most (stepM most s b).1 rc ro ∧ ((stepM most s b).2.2 = 0 → rc = (stepM most s b).1.came ∧ ro = 0) ∧ Upd S w w' := by
 by_cases hlf : 0 < s.leaf
 ·
  have e : stepM most s b = ((contentM s b).1, (contentM s b).2, 0) := by unfold stepM; rw [if_pos hlf]
  rw [e]
  exact (mach_stepA g most s b S w _ _ hM hlf hl1).mono fun _ _ ⟨v, h1, h2, h3, h4⟩ => ⟨v, _, _, h1, h2, h3, fun _ => ⟨rfl, rfl⟩, h4⟩
 obtain ⟨left, came, leaf, at_, begun, over⟩ := s
 simp only at hM hl0 hl1 hcl hb hlf
 have hz : leaf = 0 := by omega
 subst hz
 obtain ⟨⟨l2, e2⟩, he⟩ : ∃ q, Mxm.tk left = q := ⟨_, rfl⟩
 by_cases hz : e2 = 0
 ·
  subst hz
  have hsz : (strOfNums (came ++ [b])).size = came.length + 1 := by rw [strOfNums_size]; simp
  have hgt := hget_ok (strOfNums (came ++ [b])) zz4 0 zz8 zz4 5000 zz4
  rw [show (bytesOf (strOfNums (came ++ [b]))).drop (0 : Int).toNat = came ++ [b] by rw [BId.bytesOf_nums _ hb]; rfl] at hgt
  obtain ⟨⟨t1, t2, t3, t4, p, t6⟩, hr⟩ : ∃ q, hg (came ++ [b]) = q := ⟨_, rfl⟩
  rw [hr] at hgt
  have hdv : hd (came ++ [b]) = ⟨t1, t2, t3, t4⟩ := by unfold hd; rw [hr]
  have her : er (came ++ [b]) = t6 := by unfold er; rw [hr]
  by_cases h2 : t6 = 2
  ·
   subst h2
   have e : stepM most ⟨left, came, 0, at_, begun, over⟩ b = (⟨l2, came ++ [b], 0, at_, begun, over⟩, [], 0) := by
    unfold stepM; rw [if_neg zz19, if_neg (by simp [he]), if_pos her]; simp [takeM, he]
   rw [e]
   exact (mach_stepCut 5000 g most left l2 came _ 0 at_ begun over b 0 t1 t2 t3 t4 _ 0 S w hM rfl he rfl zz4 hgt).mono fun _ _ ⟨v, h1, h2, h3, h4⟩ => ⟨v, _, _, h1, h2, h3, fun _ => ⟨rfl, rfl⟩, h4⟩
  by_cases h0 : t6 = 0
  ·
   subst h0
   have hv := hg_back (came ++ [b]) t1 t2 t3 t4 p hb hr
   have e : stepM most ⟨left, came, 0, at_, begun, over⟩ b = beginM most ⟨l2, came ++ [b], 0, at_, begun, over⟩ ⟨t1, t2, t3, t4⟩ := by
    unfold stepM; rw [if_neg zz19, if_neg (by simp [he]), if_neg (by rw [her]; decide), if_neg (by rw [her]; simp), hdv]; simp [takeM, he]
   rw [e]
   exact (mach_stepOk 5000 g most left l2 came _ 0 at_ begun over b 0 t1 t2 t3 t4 _ 0 S w hM rfl he rfl zz4 hgt hv.1.2.1 hv.1.2.2).mono fun _ _ ⟨v, h1, h2, h3, h4⟩ => ⟨v, _, _, h1, h2, h3, fun hz => ⟨(begin_came _ _ _ hz).symm, rfl⟩, h4⟩
  ·
   have e : stepM most ⟨left, came, 0, at_, begun, over⟩ b = (⟨l2, came ++ [b], 0, at_, begun, over⟩, [], t6) := by
    unfold stepM; rw [if_neg zz19, if_neg (by simp [he]), if_neg (by rw [her]; exact h2), if_pos (by rw [her]; exact h0), her]; simp [takeM, he]
   rw [e]
   exact (mach_stepErr 5000 g most left l2 came _ 0 at_ begun over b 0 t1 t2 t3 t4 _ t6 S w hM rfl he rfl zz4 hgt h0 h2).mono fun _ _ ⟨v, h1, h2, h3, h4⟩ => ⟨v, _, _, h1, h2, h3, fun hz => absurd hz h0, h4⟩
 ·
  have e : stepM most ⟨left, came, 0, at_, begun, over⟩ b = (⟨l2, came, 0, at_, begun, over⟩, [], e2) := by
   unfold stepM; rw [if_neg zz19, if_pos (by simp [he, hz])]; simp [takeM, he]
  rw [e]
  exact (mach_stepT 0 g most left l2 came came 0 at_ begun over b e2 0 0 false 0 0 0 S w hM rfl he hz).mono fun _ _ ⟨v, h1, h2, h3, h4⟩ => ⟨v, _, _, h1, h2, h3, fun hh => absurd hh hz, h4⟩
set_option maxHeartbeats 8000000 in
set_option maxRecDepth 100000 in
theorem mach_done0 (g most : Nat) (s : St) (S : Nat → Prop) (w : World) (rc : List Int) (ro : Int) (hM : Mc w S g most s rc ro) (hbg : s.begun = false) :
 Calls Try.prog 41 #[.pointer (some ⟨g, 0, none⟩)] w fun e w' => e = .returned (.bool false) ∧ w = w' := by
 obtain ⟨gs, gr, v, hb, hg, hk, hr⟩ := hM.blk
 obtain ⟨A0, c0, rfl⟩ := Kd.R_slice hr
 have HK := Aside0.mk hk
 have hc0 : w.cell? ⟨g, 0, none⟩ = some (.pointer (some ⟨gs, 0, none⟩)) := (blk_cell hb 0).trans rfl
 have hc2 : w.cell? ⟨g, 2, none⟩ = some (.slice A0 s.came.length c0) := (blk_cell hb 2).trans rfl
 have hc3 : w.cell? ⟨g, 3, none⟩ = some (.int .i64 s.leaf) := (blk_cell hb 3).trans rfl
 have hc5 : w.cell? ⟨g, 5, none⟩ = some (.bool false) := (blk_cell hb 5).trans (by rw [hbg]; rfl)
 clear hb hM hg hk hr
 go_enter Try.func41, Try.ntmps41
 go_wp2_with (first
  | (go_at_call 57
     (with_reducible refine (stack_depth gs most s.left S _ HK.out).mono ?_)
     rintro e w1 ⟨rfl, rfl⟩))
 go_ret
 exact ⟨rfl, rfl⟩
set_option maxHeartbeats 8000000 in
set_option maxRecDepth 100000 in
theorem mach_done1 (g most : Nat) (s : St) (S : Nat → Prop) (w : World) (rc : List Int) (ro : Int) (hM : Mc w S g most s rc ro) (hbg : s.begun = true) (h1 : s.left.length ≠ 0) :
 Calls Try.prog 41 #[.pointer (some ⟨g, 0, none⟩)] w fun e w' => e = .returned (.bool false) ∧ w = w' := by
 obtain ⟨gs, gr, v, hb, hg, hk, hr⟩ := hM.blk
 obtain ⟨A0, c0, rfl⟩ := Kd.R_slice hr
 have HK := Aside0.mk hk
 have c1 : ((s.left.length : Int) == 0) = false := by rw [beq_eq_false_iff_ne]; omega
 clear h1
 have hc0 : w.cell? ⟨g, 0, none⟩ = some (.pointer (some ⟨gs, 0, none⟩)) := (blk_cell hb 0).trans rfl
 have hc2 : w.cell? ⟨g, 2, none⟩ = some (.slice A0 s.came.length c0) := (blk_cell hb 2).trans rfl
 have hc3 : w.cell? ⟨g, 3, none⟩ = some (.int .i64 s.leaf) := (blk_cell hb 3).trans rfl
 have hc5 : w.cell? ⟨g, 5, none⟩ = some (.bool true) := (blk_cell hb 5).trans (by rw [hbg]; rfl)
 clear hb hM hg hk hr
 go_enter Try.func41, Try.ntmps41
 go_wp2_with (first
  | (go_at_call 57
     (with_reducible refine (stack_depth gs most s.left S _ HK.out).mono ?_)
     rintro e w1 ⟨rfl, rfl⟩))
 go_ret
 exact ⟨rfl, rfl⟩
set_option maxHeartbeats 8000000 in
set_option maxRecDepth 100000 in
theorem mach_done2 (g most : Nat) (s : St) (S : Nat → Prop) (w : World) (rc : List Int) (ro : Int) (hM : Mc w S g most s rc ro) (hbg : s.begun = true) (h1 : s.left.length = 0) (h2 : s.leaf ≠ 0) :
 Calls Try.prog 41 #[.pointer (some ⟨g, 0, none⟩)] w fun e w' => e = .returned (.bool false) ∧ w = w' := by
 obtain ⟨gs, gr, v, hb, hg, hk, hr⟩ := hM.blk
 obtain ⟨A0, c0, rfl⟩ := Kd.R_slice hr
 have HK := Aside0.mk hk
 have c1 : ((s.left.length : Int) == 0) = true := by rw [beq_iff_eq]; omega
 have c2 : (s.leaf == 0) = false := beq_eq_false_iff_ne.2 h2
 clear h1 h2
 have hc0 : w.cell? ⟨g, 0, none⟩ = some (.pointer (some ⟨gs, 0, none⟩)) := (blk_cell hb 0).trans rfl
 have hc2 : w.cell? ⟨g, 2, none⟩ = some (.slice A0 s.came.length c0) := (blk_cell hb 2).trans rfl
 have hc3 : w.cell? ⟨g, 3, none⟩ = some (.int .i64 s.leaf) := (blk_cell hb 3).trans rfl
 have hc5 : w.cell? ⟨g, 5, none⟩ = some (.bool true) := (blk_cell hb 5).trans (by rw [hbg]; rfl)
 clear hb hM hg hk hr
 go_enter Try.func41, Try.ntmps41
 go_wp2_with (first
  | (go_at_call 57
     (with_reducible refine (stack_depth gs most s.left S _ HK.out).mono ?_)
     rintro e w1 ⟨rfl, rfl⟩))
 go_ret
 exact ⟨rfl, rfl⟩
set_option maxHeartbeats 8000000 in
set_option maxRecDepth 100000 in
theorem mach_done3 (g most : Nat) (s : St) (S : Nat → Prop) (w : World) (rc : List Int) (ro : Int) (hM : Mc w S g most s rc ro) (hbg : s.begun = true) (h1 : s.left.length = 0) (h2 : s.leaf = 0) (h3 : s.came.length ≠ 0) :
 Calls Try.prog 41 #[.pointer (some ⟨g, 0, none⟩)] w fun e w' => e = .returned (.bool false) ∧ w = w' := by
 obtain ⟨gs, gr, v, hb, hg, hk, hr⟩ := hM.blk
 obtain ⟨A0, c0, rfl⟩ := Kd.R_slice hr
 have HK := Aside0.mk hk
 have c1 : ((s.left.length : Int) == 0) = true := by rw [beq_iff_eq]; omega
 have c2 : (s.leaf == 0) = true := beq_iff_eq.2 h2
 have c3 : ((s.came.length : Int) == 0) = false := by rw [beq_eq_false_iff_ne]; omega
 clear h1 h2 h3
 have hc0 : w.cell? ⟨g, 0, none⟩ = some (.pointer (some ⟨gs, 0, none⟩)) := (blk_cell hb 0).trans rfl
 have hc2 : w.cell? ⟨g, 2, none⟩ = some (.slice A0 s.came.length c0) := (blk_cell hb 2).trans rfl
 have hc3 : w.cell? ⟨g, 3, none⟩ = some (.int .i64 s.leaf) := (blk_cell hb 3).trans rfl
 have hc5 : w.cell? ⟨g, 5, none⟩ = some (.bool true) := (blk_cell hb 5).trans (by rw [hbg]; rfl)
 clear hb hM hg hk hr
 go_enter Try.func41, Try.ntmps41
 go_wp2_with (first
  | (go_at_call 57
     (with_reducible refine (stack_depth gs most s.left S _ HK.out).mono ?_)
     rintro e w1 ⟨rfl, rfl⟩))
 go_ret
 exact ⟨rfl, rfl⟩
set_option maxHeartbeats 8000000 in
set_option maxRecDepth 100000 in
theorem mach_done4 (g most : Nat) (s : St) (S : Nat → Prop) (w : World) (rc : List Int) (ro : Int) (hM : Mc w S g most s rc ro) (hbg : s.begun = true) (h1 : s.left.length = 0) (h2 : s.leaf = 0) (h3 : s.came.length = 0) :
 Calls Try.prog 41 #[.pointer (some ⟨g, 0, none⟩)] w fun e w' => e = .returned (.bool true) ∧ w = w' := by
 obtain ⟨gs, gr, v, hb, hg, hk, hr⟩ := hM.blk
 obtain ⟨A0, c0, rfl⟩ := Kd.R_slice hr
 have HK := Aside0.mk hk
 have c1 : ((s.left.length : Int) == 0) = true := by rw [beq_iff_eq]; omega
 have c2 : (s.leaf == 0) = true := beq_iff_eq.2 h2
 have c3 : ((s.came.length : Int) == 0) = true := by rw [beq_iff_eq]; omega
 clear h1 h2 h3
 have hc0 : w.cell? ⟨g, 0, none⟩ = some (.pointer (some ⟨gs, 0, none⟩)) := (blk_cell hb 0).trans rfl
 have hc2 : w.cell? ⟨g, 2, none⟩ = some (.slice A0 s.came.length c0) := (blk_cell hb 2).trans rfl
 have hc3 : w.cell? ⟨g, 3, none⟩ = some (.int .i64 s.leaf) := (blk_cell hb 3).trans rfl
 have hc5 : w.cell? ⟨g, 5, none⟩ = some (.bool true) := (blk_cell hb 5).trans (by rw [hbg]; rfl)
 clear hb hM hg hk hr
 go_enter Try.func41, Try.ntmps41
 go_wp2_with (first
  | (go_at_call 57
     (with_reducible refine (stack_depth gs most s.left S _ HK.out).mono ?_)
     rintro e w1 ⟨rfl, rfl⟩))
 go_ret
 exact ⟨rfl, rfl⟩
theorem mach_done (g most : Nat) (s : St) (S : Nat → Prop) (w : World) (rc : List Int) (ro : Int) (hM : Mc w S g most s rc ro) :
 Calls Try.prog 41 #[.pointer (some ⟨g, 0, none⟩)] w fun e w' => e = .returned (.bool (done s)) ∧ w = w' := by
 unfold done
 cases hbg : s.begun with
 | false => exact mach_done0 g most s S w rc ro hM hbg
 | true =>
   by_cases h1 : s.left.length = 0
   ·
    by_cases h2 : s.leaf = 0
    ·
     by_cases h3 : s.came.length = 0
     ·
      rw [show (true && ((s.left.length : Int) == 0) && (s.leaf == 0) && ((s.came.length : Int) == 0)) = true by simp [h1, h2, h3]]
      exact mach_done4 g most s S w rc ro hM hbg h1 h2 h3
     ·
      rw [show (true && ((s.left.length : Int) == 0) && (s.leaf == 0) && ((s.came.length : Int) == 0)) = false by simp; intro _ _ h; exact absurd (by simp [h]) h3]
      exact mach_done3 g most s S w rc ro hM hbg h1 h2 h3
    ·
     rw [show (true && ((s.left.length : Int) == 0) && (s.leaf == 0) && ((s.came.length : Int) == 0)) = false by simp [h2]]
     exact mach_done2 g most s S w rc ro hM hbg h1 h2
   ·
    rw [show (true && ((s.left.length : Int) == 0) && (s.leaf == 0) && ((s.came.length : Int) == 0)) = false by simp; intro h; exact absurd (by simp [h]) h1]
    exact mach_done1 g most s S w rc ro hM hbg h1
end Go.Proofs.Ytcfommconnlhgaa.PC
namespace Go.Proofs.Ytcfommconnlhgaa.PC
open RowKit YtcfommconnlhgaaW.PrintWords YtcfommconnlhgaaW.PrintLast YtcfommconnlhgaaW.PrintMore
attribute [local go_sem] max2_int min2_int max_two min_two max_three min_three max_four min_four
set_option linter.unusedVariables false
set_option linter.unusedSimpArgs false
open Own
theorem Mc.opn {w : World} {S : Nat → Prop} {g most : Nat} {s : St} {rc : List Int} {ro : Int} (h : Mc w S g most s rc ro) : ∃ gs gr v, w.heap[g]? = some (.cells #[.pointer (some ⟨gs, 0, none⟩), .pointer (some ⟨gr, 0, none⟩), v, .int .i64 s.leaf, .int .i64 s.at_, .bool s.begun, .int .i64 s.over] 126 (0, 0)) ∧ S g ∧ Sk w S gs most s.left ∧ (Kd.int .u8).R 5 w 0 S v s.came ∧
 (∀ W (s' : St), s'.left = s.left → s'.came = s.came → Upd (fun k => k = g) w W → W.heap[g]? = some (.cells #[.pointer (some ⟨gs, 0, none⟩), .pointer (some ⟨gr, 0, none⟩), v, .int .i64 s'.leaf, .int .i64 s'.at_, .bool s'.begun, .int .i64 s'.over] 126 (0, 0)) → Mc W S g most s' rc ro) ∧
 (∀ W l', Sk W S gs most l' → Upd (Bnd w [141] S) w W → Mc W S g most { s with left := l' } rc ro) := by
 obtain ⟨gs, gr, v, S2, S3, hg, hb, hk, hr, hc, h2, h3, h23⟩ := h
 refine ⟨gs, gr, v, hb, hg, hk, row_mono hc h3, ?_, ?_⟩
 ·
  intro W s' e1 e2 hu hb'
  exact ⟨gs, gr, v, S2, S3, hg, hb', by rw [e1]; exact hk.updT hb zz8 hu, hr.updT hb zz8 hu, by rw [e2]; exact row_updT hc hb zz8 hu, h2, h3, h23⟩
 ·
  intro W l' hk' hu
  exact ⟨gs, gr, v, S2, S3, hg, hu.blk hb (Bnd.ne hb zz8), hk', hr.updB hu zz8, row_mono (row_upd (Bnd.row hc (E := 5 :: (Kd.int .u8).E) (fun _ h => h)) hu (fun k h1 h2 => bnd_apart zz8 h1 h2)) Bnd.of, h2, h3, h23⟩
theorem mach_doneE (g most : Nat) (s : St) (d : Bool) (S : Nat → Prop) (w : World) (rc : List Int) (ro : Int) (hM : Mc w S g most s rc ro) (hd : done s = d) :
 Calls Try.prog 41 #[.pointer (some ⟨g, 0, none⟩)] w fun e w' => e = .returned (.bool d) ∧ w = w' := by
 subst hd
 exact mach_done g most s S w rc ro hM
theorem mach_stepE (g most : Nat) (s s1 : St) (x1 : List Ev) (e1 : Int) (b : Int) (S : Nat → Prop) (w : World) (hM : Mc w S g most s s.came 0) (hl0 : 0 ≤ s.leaf) (hl1 : s.leaf ≤ 2305843009213693951) (hcl : s.came.length ≤ 900) (hb : Idm.Bytes (s.came ++ [b])) (hs : stepM most s b = (s1, x1, e1)) :
 Calls Try.prog 55 #[.pointer (some ⟨g, 0, none⟩), .int .u8 b] w fun e w' => ∃ v rc ro, e = .returned (.tuple #[v, .int .i64 e1]) ∧ k34.R 34 w' 0 (New w None0) v x1 ∧ Mc w' (New w S) g most s1 rc ro ∧ (e1 = 0 → rc = s1.came ∧ ro = 0) ∧ Upd S w w' := by
 have h := mach_step g most s b S w hM hl0 hl1 hcl hb
 rw [hs] at h
 exact h
set_option maxHeartbeats 8000000 in
set_option maxRecDepth 100000 in
theorem mach_pushD (g most : Nat) (s : St) (b : Int) (S : Nat → Prop) (w : World) (rc : List Int) (ro : Int) (hM : Mc w S g most s rc ro) (ho : s.over = 0) (hd : done s = true) :
 Calls Try.prog 40 #[.pointer (some ⟨g, 0, none⟩), .int .u8 b] w fun e w' => e = .returned (.tuple #[.slice none 0 0, .int .i64 6]) ∧ Mc w' S g most { s with over := 6 } rc ro ∧ Upd S w w' := by
 have HM := Aside0.mk hM
 obtain ⟨gs, gr, v, hb, hg, _, _, hput, _⟩ := hM.opn
 have HP := Aside0.mk hput
 have HG := Aside0.mk hg
 have HD := Aside0.mk hd
 have BG := Aside0.mk hb
 have hc6 : w.cell? ⟨g, 6, none⟩ = some (.int .i64 0) := by rw [← ho]; exact (blk_cell hb 6).trans rfl
 clear hb hM ho hput hg hd
 go_enter Try.func40, Try.ntmps40
 go_wp2_with (first
  | (go_at_call 41
     (with_reducible refine (mach_doneE g most s true S _ rc ro HM.out HD.out).mono ?_)
     rintro e w1 ⟨rfl, rfl⟩)
  | ((with_reducible refine gate_store (t := 35) (p := 19) (v := .const (.int .i64 6)) rfl ?_)
     refine cellput rfl 35 (.tmp 19) (.const (.int .i64 6)) rfl rfl g 6 (.int .i64 6) rfl rfl 126 _ _ BG.out zz5 zz19 rfl rfl ?_
     intro w1 hbox hu
     have Q1 := Aside0.mk (HP.out w1 { s with over := 6 } rfl rfl hu hbox)
     have Q2 := Aside0.mk (hu.mono (fun k hk => by rw [hk]; exact HG.out) : Upd S w w1)
     have hd6 : w1.cell? ⟨g, 6, none⟩ = some (.int .i64 6) := (blk_cell hbox 6).trans rfl
     clear hbox hu))
 go_region
 go_wp2
 go_ret2
 exact ⟨rfl, Q1.out.drew, Q2.out.drew⟩
set_option maxHeartbeats 8000000 in
set_option maxRecDepth 100000 in
theorem mach_pushE (g most : Nat) (s s1 : St) (x1 : List Ev) (e1 b : Int) (S : Nat → Prop) (w : World) (hM : Mc w S g most s s.came 0) (ho : s.over = 0) (hd : done s = false) (hl0 : 0 ≤ s.leaf) (hl1 : s.leaf ≤ 2305843009213693951) (hcl : s.came.length ≤ 900) (hb : Idm.Bytes (s.came ++ [b])) (hs : stepM most s b = (s1, x1, e1)) (he : e1 ≠ 0) :
 Calls Try.prog 40 #[.pointer (some ⟨g, 0, none⟩), .int .u8 b] w fun e w' => ∃ rc ro, e = .returned (.tuple #[.slice none 0 0, .int .i64 e1]) ∧ Mc w' (New w S) g most { s1 with over := e1 } rc ro ∧ Upd S w w' := by
 have HM := Aside0.mk hM
 obtain ⟨gs, gr, v, hb0, hg, _⟩ := hM.opn
 have HG := Aside0.mk hg
 have HD := Aside0.mk hd
 have HS := Aside0.mk hs
 have HB := Aside0.mk hb
 have HL := Aside0.mk (And.intro hl0 (And.intro hl1 hcl))
 have c1 : (e1 != 0) = true := bne_iff_ne.2 he
 have hc6 : w.cell? ⟨g, 6, none⟩ = some (.int .i64 0) := by rw [← ho]; exact (blk_cell hb0 6).trans rfl
 clear hb0 hM ho hg hd hs hb hl0 hl1 hcl he
 go_enter Try.func40, Try.ntmps40
 go_wp2_with (first
  | (go_at_call 41
     (with_reducible refine (mach_doneE g most s false S _ _ _ HM.out HD.out).mono ?_)
     rintro e w1 ⟨rfl, rfl⟩)
  | (go_at_call 55
     (with_reducible refine (mach_stepE g most s s1 x1 e1 b S _ HM.out HL.out.1 HL.out.2.1 HL.out.2.2 HB.out HS.out).mono ?_)
     rintro e w1 ⟨v1, rc1, ro1, rfl, h1, h2, h3, h4⟩
     obtain ⟨gs1, gr1, v2, hb1, hg1, _, _, hput, _⟩ := h2.opn
     have HP := Aside0.mk hput
     have BG := Aside0.mk hb1
     have Q4 := Aside0.mk h4
     clear h1 h2 h3 h4 hput hb1 hg1)
  | ((with_reducible refine gate_store (t := 35) (p := 40) (v := .tmp 38) rfl ?_)
     refine cellput rfl 35 (.tmp 40) (.tmp 38) rfl rfl g 6 (.int .i64 e1) rfl rfl 126 _ _ BG.out zz5 zz19 rfl rfl ?_
     intro w2 hbox hu
     have Q1 := Aside0.mk (HP.out w2 { s1 with over := e1 } rfl rfl hu hbox)
     have Q2 := Aside0.mk (Q4.out.trans hu (fun k hk => by rw [hk]; exact .inl HG.out) : Upd S w w2)
     clear hbox hu))
 go_ret2
 exact ⟨_, _, rfl, Q1.out, Q2.out⟩
end Go.Proofs.Ytcfommconnlhgaa.PC
namespace Go.Proofs.Ytcfommconnlhgaa.PC
open RowKit YtcfommconnlhgaaW.PrintWords YtcfommconnlhgaaW.PrintLast YtcfommconnlhgaaW.PrintMore
attribute [local go_sem] max2_int min2_int max_two min_two max_three min_three max_four min_four
set_option linter.unusedVariables false
set_option linter.unusedSimpArgs false
open Own
def cl (s : St) (l : List Int) : List Int × List Ev := if s.leaf = 0 ∧ s.came = [] then exits s.at_ l else (l, [])
theorem closeM_cl (s : St) : closeM s = ({ s with left := (cl s s.left).1, at_ := s.at_ + 1 }, (cl s s.left).2) := by
 unfold closeM cl
 split <;> rfl
theorem stack_leaveE (g most : Nat) (left l2 : List Int) (d : Bool) (S : Nat → Prop) (w : World) (hS : Sk w S g most left) (he : Mxm.lv left = (l2, d)) :
 Calls Try.prog 56 #[.pointer (some ⟨g, 0, none⟩)] w fun e w' => e = .returned (.bool d) ∧ Sk w' S g most l2 ∧ Upd S w w' := by
 have h := stack_leave g most left S w hS
 rw [he] at h
 exact h
set_option maxHeartbeats 16000000 in
set_option maxRecDepth 100000 in
theorem mach_pushS (g most : Nat) (s s1 : St) (x1 : List Ev) (b : Int) (S : Nat → Prop) (w : World) (hM : Mc w S g most s s.came 0) (ho : s.over = 0) (hd : done s = false) (hl0 : 0 ≤ s.leaf) (hl1 : s.leaf ≤ 2305843009213693951) (hcl : s.came.length ≤ 900) (hb : Idm.Bytes (s.came ++ [b])) (hs : stepM most s b = (s1, x1, 0)) (ha0 : 0 ≤ s1.at_) (ha1 : s1.at_ ≤ 1000000) (hx : x1.length ≤ 100) :
 Calls Try.prog 40 #[.pointer (some ⟨g, 0, none⟩), .int .u8 b] w fun e w' => ∃ v, e = .returned (.tuple #[v, .int .i64 0]) ∧ k34.R 34 w' 0 (New w None0) v (x1 ++ (closeM s1).2) ∧ Mc w' (New w S) g most (closeM s1).1 s1.came 0 ∧ Upd S w w' ∧ (x1 ++ (closeM s1).2).length ≤ 200 := by
 have HM := Aside0.mk hM
 obtain ⟨gs, gr, v, hb0, hg, _⟩ := hM.opn
 have HG := Aside0.mk hg
 have HD := Aside0.mk hd
 have HS := Aside0.mk hs
 have HB := Aside0.mk hb
 have HX := Aside0.mk hx
 have HL := Aside0.mk (And.intro hl0 (And.intro hl1 hcl))
 have hc6 : w.cell? ⟨g, 6, none⟩ = some (.int .i64 0) := by rw [← ho]; exact (blk_cell hb0 6).trans rfl
 clear hb0 hM ho hg hd hs hb hl0 hl1 hcl hx
 go_enter Try.func40, Try.ntmps40
 go_wp2_with (first
  | (go_at_call 41
     (with_reducible refine (mach_doneE g most s false S _ _ _ HM.out HD.out).mono ?_)
     rintro e w1 ⟨rfl, rfl⟩)
  | (go_at_call 55
     (with_reducible refine (mach_stepE g most s s1 x1 0 b S _ HM.out HL.out.1 HL.out.2.1 HL.out.2.2 HB.out HS.out).mono ?_)
     rintro e w1 ⟨v1, rc1, ro1, rfl, h1, h2, h3, h4⟩
     obtain ⟨rfl, rfl⟩ := h3 rfl
     obtain ⟨A0, c0, rfl⟩ := Kd.R_slice h1
     have M1 := Aside0.mk h2
     have R1 := Aside0.mk h1
     have U1 := Aside0.mk h4
     clear h1 h2 h3 h4))
 go_loopg [6] s1.left.length (fun gk v6 wr => ∃ (l1 : List Int) (xs : List Ev), Aside0 ((cl s1 l1).1 = (cl s1 s1.left).1 ∧ xs ++ (cl s1 l1).2 = x1 ++ (cl s1 s1.left).2 ∧ l1.length ≤ gk ∧ xs.length + l1.length ≤ x1.length + s1.left.length) ∧ Aside0 (k34.R 34 wr 0 (New w None0) v6 xs) ∧ Aside0 (Mc wr (New w S) g most { s1 with left := l1 } s1.came 0) ∧ Aside0 (Upd S w wr))
 case atStart => exact ⟨s1.left, x1, ⟨rfl, rfl, Nat.le_refl _, Nat.le_refl _⟩, R1, M1, U1⟩
 case round =>
  obtain ⟨l1, xs, HI, HR, HM1, HU1⟩ := hrel
  have hlen : s1.left.length ≤ 64 := by obtain ⟨_, _, _, _, _, hk0, _⟩ := M1.out.opn; obtain ⟨_, _, _, _, _, _, _, h1_, h2_, _⟩ := hk0; omega
  have HLEN := Aside0.mk hlen
  clear hlen R1 M1 U1 hc6
  obtain ⟨A1, c1, rfl⟩ := Kd.R_slice HR.out
  obtain ⟨gs, gr, v, hb1, _, hk1, hr1, hput1, hle1⟩ := HM1.out.opn
  obtain ⟨A2, c2, rfl⟩ := Kd.R_slice hr1
  have BG1 := Aside0.mk hb1
  have HP1 := Aside0.mk hput1
  have HLE := Aside0.mk hle1
  have HK := Aside0.mk hk1
  have hd0 : wr.cell? ⟨g, 0, none⟩ = some (.pointer (some ⟨gs, 0, none⟩)) := (blk_cell hb1 0).trans rfl
  have hd2 : wr.cell? ⟨g, 2, none⟩ = some (.slice A2 s1.came.length c2) := (blk_cell hb1 2).trans rfl
  have hd3 : wr.cell? ⟨g, 3, none⟩ = some (.int .i64 s1.leaf) := (blk_cell hb1 3).trans rfl
  have hd4 : wr.cell? ⟨g, 4, none⟩ = some (.int .i64 s1.at_) := (blk_cell hb1 4).trans rfl
  clear hb1 hk1 hr1 hput1 hle1 HM1
  by_cases z1 : s1.leaf = 0
  ·
   have y1 : (s1.leaf == 0) = true := beq_iff_eq.2 z1
   by_cases z2 : s1.came.length = 0
   ·
    have y2 : ((s1.came.length : Int) == 0) = true := by rw [beq_iff_eq]; omega
    have ecl : ∀ l, cl s1 l = exits s1.at_ l := fun l => by unfold cl; rw [if_pos ⟨z1, List.eq_nil_of_length_eq_zero z2⟩]
    have ECL := Aside0.mk ecl
    clear z1 z2 ecl
    obtain ⟨⟨l2, d⟩, hlv⟩ : ∃ q, Mxm.lv l1 = q := ⟨_, rfl⟩
    have HLV := Aside0.mk hlv
    cases d with
    | false =>
      have HE : Aside0 (xs = x1 ++ (closeM s1).2 ∧ { s1 with left := l2, at_ := s1.at_ + 1 } = (closeM s1).1) := ⟨by
       have h := HI.out
       rw [ECL.out, ECL.out] at h
       have h2 : exits s1.at_ l1 = (l1, []) ∧ l2 = l1 := by
        cases l1 with
        | nil => simp [Mxm.lv] at hlv; exact ⟨rfl, hlv⟩
        | cons x r =>
          by_cases hx0 : x = 0
          ·
           simp [Mxm.lv, hx0] at hlv
          ·
           simp [Mxm.lv, hx0] at hlv; exact ⟨by simp [exits, hx0], hlv.symm⟩
       obtain ⟨h2, rfl⟩ := h2
       rw [h2] at h
       obtain ⟨g1, g2, _⟩ := h
       rw [closeM_cl, ECL.out]
       refine ⟨by simpa using g2, ?_⟩
       simp only at g1
       rw [← g1]⟩
      clear hlv
      go_wp2_with (first
       | (go_at_call 56
          (with_reducible refine (stack_leaveE gs most l1 l2 false _ _ HK.out.bnd HLV.out).mono ?_)
          rintro e w5 ⟨rfl, hs, hu⟩
          have m5 := HLE.out _ _ (hs.mono Bnd.of) hu
          have HU5 := Aside0.mk (HU1.out.trans hu (fun k hk => hk.1) : Upd S w w5)
          have HR5 := Aside0.mk (row_mono (row_upd (Bnd.row HR.out (E := 34 :: k34.E) (fun _ h => h)) hu (fun k h1 h2 => bnd_apart zz8 h1 h2)) Bnd.of)
          obtain ⟨gs5, gr5, v5, hb5, _, _, _, hput5, _⟩ := m5.opn
          have HP5 := Aside0.mk hput5
          have BG5 := Aside0.mk hb5
          have hd4 : w5.cell? ⟨g, 4, none⟩ = some (.int .i64 s1.at_) := (blk_cell hb5 4).trans rfl
          clear hs hu m5 hput5 hb5)
       | ((with_reducible refine gate_store (t := 3) (p := 76) (v := .tmp 74) rfl ?_)
          refine cellput rfl 3 (.tmp 76) (.tmp 74) rfl rfl g 4 (.int .i64 (s1.at_ + 1)) rfl rfl 126 _ _ BG5.out zz5 zz19 rfl rfl ?_
          intro w6 hbox hu
          have Q1 := Aside0.mk (HP5.out w6 { s1 with left := l2, at_ := s1.at_ + 1 } rfl rfl hu hbox)
          have Q2 := Aside0.mk (HU5.out.trans hu (fun k hk => by rw [hk]; exact .inl HG.out) : Upd S w w6)
          have Q3 := Aside0.mk (row_updT HR5.out BG5.out zz8 hu)
          clear hbox hu))
      go_ret2
      obtain ⟨e1_, e2_⟩ := HE.out
      exact ⟨_, rfl, by rw [← e1_]; exact Q3.out, by rw [← e2_]; exact Q1.out, Q2.out, zz26⟩
    | true =>
      obtain ⟨r, rfl, rfl⟩ : ∃ r, l1 = 0 :: r ∧ r = l2 := by
       cases l1 with
       | nil => simp [Mxm.lv] at hlv
       | cons x r =>
         by_cases hx0 : x = 0
         ·
          subst hx0; simp [Mxm.lv] at hlv; exact ⟨r, rfl, hlv⟩
         ·
          simp [Mxm.lv, hx0] at hlv
      have HXL := Aside0.mk (show xs.length ≤ 10000 by have := HI.out.2.2.2; have := HLEN.out; have := HX.out; omega)
      obtain ⟨xs2, hxs2⟩ : ∃ q, xs ++ [ev 5 s1.at_ h0 0] = q := ⟨_, rfl⟩
      have HXS := Aside0.mk hxs2
      clear hlv hxs2
      go_wp2_with (first
       | (go_at_call 56
          (with_reducible refine (stack_leaveE gs most (0 :: r) r true _ _ HK.out.bnd HLV.out).mono ?_)
          rintro e w5 ⟨rfl, hs, hu⟩
          have m5 := HLE.out _ _ (hs.mono Bnd.of) hu
          have M5 := Aside0.mk m5
          have HU5 := Aside0.mk (HU1.out.trans hu (fun k hk => hk.1) : Upd S w w5)
          have HR5 := Aside0.mk (row_mono (row_upd (Bnd.row HR.out (E := 34 :: k34.E) (fun _ h => h)) hu (fun k h1 h2 => bnd_apart zz8 h1 h2)) Bnd.of)
          obtain ⟨gs5, gr5, v5, hb5, _, _, _, _, _⟩ := m5.opn
          have hd4 : w5.cell? ⟨g, 4, none⟩ = some (.int .i64 s1.at_) := (blk_cell hb5 4).trans rfl
          clear hs hu m5 hb5)
       | ((with_reducible refine gate_builtin (b := .append) (xs := #[.tmp 62, .tmp 68]) rfl ?_); at_builtin
          refine row_append (k34) (S := (New w None0)) rfl (.tmp 62) (.tmp 68) 25 34 (.agg #[.int .i64 0, .int .i64 0, .int .i64 0, .int .i64 0, .bool false, .int .i64 0, .int .u8 0]) 56 rfl Try.underlying25 info34 rfl zz8 zz4 (.slice A1 xs.length c1) (xs) (ev 5 s1.at_ h0 0) [.int .i64 5, .int .i64 s1.at_, .int .i64 0, .int .i64 0, .bool false, .int .i64 0, .int .u8 0] rfl rfl ?aP ?aO ?aL xs2 HXS.out ?_
          (case aP => exact k34_mkM _ _ _ _); (case aO => exact HR5.out); (case aL => have := HXL.out; omega)
          intro v2 w6 ho hu
          have Q1 := Aside0.mk (M5.out.updR HR5.out zz8 hu)
          have Q2 := Aside0.mk (HU5.out.trans hu (fun k hk => (row_at HR5.out hk).elim (fun h => h.elim) .inr) : Upd S w w6)
          have Q3 := Aside0.mk (row_mono ho (fun k hk => hk.elim id (fun h => (.inr (Nat.le_trans HU5.out.size h) : New w None0 k))))
          clear ho hu))
      go_roundg (gk - 1)
      case measure => have := HI.out.2.2.1; simp at this; omega
      case rel =>
       refine ⟨r, xs2, ⟨?_⟩, Q3, Q1, Q2⟩
       have h := HI.out
       have hx0 : exits s1.at_ (0 :: r) = ((exits s1.at_ r).1, ev 5 s1.at_ h0 0 :: (exits s1.at_ r).2) := by simp [exits]
       rw [ECL.out (0 :: r), hx0] at h
       rw [ECL.out r, ← HXS.out]
       obtain ⟨g1, g2, g3, g4⟩ := h
       simp only [List.length_cons] at g3 g4
       exact ⟨g1, by rw [← g2]; simp, zz4, by rw [List.length_append]; simp; omega⟩
   ·
    have y2 : ((s1.came.length : Int) == 0) = false := by rw [beq_eq_false_iff_ne]; omega
    have HE : Aside0 (xs = x1 ++ (closeM s1).2 ∧ { s1 with left := l1, at_ := s1.at_ + 1 } = (closeM s1).1) := ⟨by
     have h := HI.out
     have hn : ¬ (s1.leaf = 0 ∧ s1.came = []) := fun hh => z2 (by simp [hh.2])
     have e1 : ∀ l, cl s1 l = (l, []) := fun l => by unfold cl; rw [if_neg hn]
     rw [e1, e1] at h
     rw [closeM_cl, e1]
     refine ⟨by simpa using h.2.1, ?_⟩
     rw [← h.1]⟩
    clear z1 z2
    go_wp2_with (first
     | ((with_reducible refine gate_store (t := 3) (p := 76) (v := .tmp 74) rfl ?_)
        refine cellput rfl 3 (.tmp 76) (.tmp 74) rfl rfl g 4 (.int .i64 (s1.at_ + 1)) rfl rfl 126 _ _ BG1.out zz5 zz19 rfl rfl ?_
        intro w6 hbox hu
        have Q1 := Aside0.mk (HP1.out w6 { s1 with left := l1, at_ := s1.at_ + 1 } rfl rfl hu hbox)
        have Q2 := Aside0.mk (HU1.out.trans hu (fun k hk => by rw [hk]; exact .inl HG.out) : Upd S w w6)
        have Q3 := Aside0.mk (row_updT HR.out BG1.out zz8 hu)
        clear hbox hu))
    go_ret2
    obtain ⟨e1_, e2_⟩ := HE.out
    exact ⟨_, rfl, by rw [← e1_]; exact Q3.out, by rw [← e2_]; exact Q1.out, Q2.out, zz26⟩
  ·
   have y1 : (s1.leaf == 0) = false := beq_eq_false_iff_ne.2 z1
   have HE : Aside0 (xs = x1 ++ (closeM s1).2 ∧ { s1 with left := l1, at_ := s1.at_ + 1 } = (closeM s1).1) := ⟨by
    have h := HI.out
    have hn : ¬ (s1.leaf = 0 ∧ s1.came = []) := fun hh => z1 hh.1
    have e1 : ∀ l, cl s1 l = (l, []) := fun l => by unfold cl; rw [if_neg hn]
    rw [e1, e1] at h
    rw [closeM_cl, e1]
    refine ⟨by simpa using h.2.1, ?_⟩
    rw [← h.1]⟩
   clear z1
   go_wp2_with (first
    | ((with_reducible refine gate_store (t := 3) (p := 76) (v := .tmp 74) rfl ?_)
       refine cellput rfl 3 (.tmp 76) (.tmp 74) rfl rfl g 4 (.int .i64 (s1.at_ + 1)) rfl rfl 126 _ _ BG1.out zz5 zz19 rfl rfl ?_
       intro w6 hbox hu
       have Q1 := Aside0.mk (HP1.out w6 { s1 with left := l1, at_ := s1.at_ + 1 } rfl rfl hu hbox)
       have Q2 := Aside0.mk (HU1.out.trans hu (fun k hk => by rw [hk]; exact .inl HG.out) : Upd S w w6)
       have Q3 := Aside0.mk (row_updT HR.out BG1.out zz8 hu)
       clear hbox hu))
   go_ret2
   obtain ⟨e1_, e2_⟩ := HE.out
   exact ⟨_, rfl, by rw [← e1_]; exact Q3.out, by rw [← e2_]; exact Q1.out, Q2.out, zz26⟩
end Go.Proofs.Ytcfommconnlhgaa.PC
namespace Go.Proofs.Ytcfommconnlhgaa.PC
open RowKit YtcfommconnlhgaaW.PrintWords YtcfommconnlhgaaW.PrintLast YtcfommconnlhgaaW.PrintMore
attribute [local go_sem] max2_int min2_int max_two min_two max_three min_three max_four min_four
set_option linter.unusedVariables false
set_option linter.unusedSimpArgs false
open Own
set_option maxHeartbeats 8000000 in
set_option maxRecDepth 100000 in
theorem mach_new (n : Int) (w : World) :
 Calls Try.prog 39 #[.int .i64 n] w fun e w' => ∃ g : Nat, e = .returned (.pointer (some ⟨g, 0, none⟩)) ∧ Mc w' (New w None0) g (mn (mx n 0) 64).toNat init0 [] 0 ∧ Upd None0 w w' := by
 have hu_ := Try.underlying126
 go_enter Try.func39, Try.ntmps39
 go_wp2_with (first
  | (go_at_call 53
     (with_reducible refine (stack_new n _).mono ?_)
     rintro e w1 ⟨gs, rfl, hs, hu⟩
     have PK := Aside0.mk hs
     have HU := Aside0.mk hu
     clear hs hu)
  | (go_at_call 54
     (with_reducible refine (reader_new _).mono ?_)
     rintro e w2 ⟨gr, rfl, hs, hu⟩
     have PR := Aside0.mk (hs.mono (fun k hk => hk.elim (fun h => h.elim) (fun h => (.inr (Nat.le_trans HU.out.size h) : New w None0 k))))
     have n1 := Aside0.mk (PK.out.updN hu)
     have n2 := Aside0.mk (HU.out.trans hu (fun _ h => h.elim))
     clear PK HU hs hu; have PK := n1; have HU := n2; clear n1 n2)
  | ((with_reducible refine gate_dst (N := 7) rfl ?_)
     refine boxnew ?hg (N := 7) ?hd (cs := #[.pointer (some ⟨gs, 0, none⟩), .pointer (some ⟨gr, 0, none⟩), .slice none 0 0, .int .i64 0, .int .i64 0, .bool false, .int .i64 0]) (t := 126) ?hr ?_; (case hd => rfl); (case hg => rfl); (case hr => first | (go_simp; done) | (go_simp; rfl))
     intro g hge w3 hbox hu
     have n1 := Aside0.mk (PK.out.updN hu)
     have n2 := Aside0.mk (HU.out.trans hu (fun _ h => h.elim))
     have n3 := Aside0.mk (PR.out.updN hu)
     have GE := Aside0.mk (Nat.le_trans HU.out.size hge)
     have BK := Aside0.mk hbox
     clear PK HU PR hu hbox hge; have PK := n1; have HU := n2; have PR := n3; clear n1 n2 n3))
 go_ret
 exact ⟨_, rfl, ⟨_, _, .slice none 0 0, _, None0, .inr GE.out, BK.out, PK.out, PR.out, Kd.R_nil _ _ _ _ _, fun k h => h, fun k h => h.elim, fun k _ h => h⟩, HU.out⟩
def GoodM (s : St) (k : Nat) : Prop := s.over = 0 ∧ 0 ≤ s.leaf ∧ s.leaf ≤ 2305843009213693951 ∧ s.came.length ≤ k ∧ Idm.Bytes s.came ∧ s.at_ = (k : Int)
theorem bytes_snoc {l : List Int} {b : Int} (h : Idm.Bytes l) (hb : 0 ≤ b ∧ b < 256) : Idm.Bytes (l ++ [b]) := by
 intro x hx
 rcases List.mem_append.1 hx with hx | hx
 ·
  exact h x hx
 ·
  rw [List.mem_singleton.1 hx]; exact hb
theorem ends_len (s : St) (n : Int) : (ends s n).length ≤ 1 := by unfold ends; split <;> simp
theorem step_good (most : Nat) (s : St) (b : Int) (k : Nat) (hG : GoodM s k) (hb : 0 ≤ b ∧ b < 256) (h : (stepM most s b).2.2 = 0) :
 (stepM most s b).1.over = 0 ∧ 0 ≤ (stepM most s b).1.leaf ∧ (stepM most s b).1.leaf ≤ 2305843009213693951 ∧ (stepM most s b).1.came.length ≤ k + 1 ∧ Idm.Bytes (stepM most s b).1.came ∧ (stepM most s b).1.at_ = (k : Int) ∧ (stepM most s b).2.1.length ≤ 2 := by
 obtain ⟨g1, g2, g3, g4, g5, g6⟩ := hG
 have hby := bytes_snoc g5 hb
 have hln : (s.came ++ [b]).length ≤ k + 1 := by simp; omega
 unfold stepM at h ⊢
 by_cases h1 : 0 < s.leaf
 ·
  rw [if_pos h1]
  have := ends_len s (s.leaf - 1)
  exact ⟨g1, by simp only [contentM]; omega, by simp only [contentM]; omega, by simp only [contentM, takeM]; omega, g5, g6, by simp only [contentM, List.length_cons]; omega⟩
 rw [if_neg h1] at h ⊢
 by_cases h2 : (Mxm.tk s.left).2 ≠ 0
 ·
  rw [if_pos h2] at h; exact absurd h h2
 rw [if_neg h2] at h ⊢
 by_cases h3 : er (s.came ++ [b]) = 2
 ·
  rw [if_pos h3]
  exact ⟨g1, g2, g3, hln, hby, g6, zz19⟩
 rw [if_neg h3] at h ⊢
 by_cases h4 : er (s.came ++ [b]) ≠ 0
 ·
  rw [if_pos h4] at h; exact absurd h h4
 rw [if_neg h4] at h ⊢
 have hz : er (s.came ++ [b]) = 0 := by simpa using h4
 have hv := Hdm.hg_back (s.came ++ [b]) _ _ _ _ _ hby (show Hdm.hg (s.came ++ [b]) = ((Hdm.hg (s.came ++ [b])).1, (Hdm.hg (s.came ++ [b])).2.1, (Hdm.hg (s.came ++ [b])).2.2.1, (Hdm.hg (s.came ++ [b])).2.2.2.1, (Hdm.hg (s.came ++ [b])).2.2.2.2.1, 0) from Prod.ext rfl (Prod.ext rfl (Prod.ext rfl (Prod.ext rfl (Prod.ext rfl hz)))))
 have n0 : 0 ≤ (hd (s.came ++ [b])).f3 := hv.1.2.1
 have n1 : (hd (s.came ++ [b])).f3 ≤ 2305843009213693951 := hv.1.2.2
 generalize hd (s.came ++ [b]) = hh at *
 unfold beginM at h ⊢
 split
 ·
  rename_i h5; rw [if_pos h5] at h; simp at h
 ·
  rename_i h5
  rw [if_neg h5] at h
  split
  ·
   rename_i h6
   rw [if_pos h6] at h
   split
   ·
    rename_i h7; rw [if_pos h7] at h; exact absurd h h7
   ·
    exact ⟨g1, g2, g3, zz19, fun x hx => by simp at hx, g6, zz19⟩
  ·
   exact ⟨g1, n0, n1, zz19, fun x hx => by simp at hx, g6, Nat.succ_le_succ (ends_len _ _)⟩
theorem push_good (most : Nat) (s : St) (b : Int) (k : Nat) (hG : GoodM s k) (hb : 0 ≤ b ∧ b < 256) (h : (stepM most s b).2.2 = 0) : GoodM (closeM (stepM most s b).1).1 (k + 1) := by
 obtain ⟨a1, a2, a3, a4, a5, a6, _⟩ := step_good most s b k hG hb h
 unfold closeM
 split
 ·
  exact ⟨a1, a2, a3, a4, a5, by simp only [a6]; omega⟩
 ·
  exact ⟨a1, a2, a3, a4, a5, by simp only [a6]; omega⟩
theorem close_came (s : St) : (closeM s).1.came = s.came := by unfold closeM; split <;> rfl
theorem mach_push (g most : Nat) (s s' : St) (x : List Ev) (e' b : Int) (k : Nat) (S : Nat → Prop) (w : World) (hM : Mc w S g most s s.came 0) (hG : GoodM s k) (hk : k ≤ 800) (hb : 0 ≤ b ∧ b < 256) (hp : pushM most s b = (s', x, e')) :
 Calls Try.prog 40 #[.pointer (some ⟨g, 0, none⟩), .int .u8 b] w fun e w' => ∃ v rc ro, e = .returned (.tuple #[v, .int .i64 e']) ∧ k34.R 34 w' 0 (New w None0) v x ∧ Mc w' (New w S) g most s' rc ro ∧ Upd S w w' ∧ x.length ≤ 200 ∧ (e' = 0 → rc = s'.came ∧ ro = 0 ∧ GoodM s' (k + 1)) := by
 have hG' := hG
 obtain ⟨g1, g2, g3, g4, g5, g6⟩ := hG
 have hby := bytes_snoc g5 hb
 unfold pushM at hp
 rw [if_neg (by simp [g1])] at hp
 by_cases hd : done s = true
 ·
  rw [if_pos hd] at hp
  simp only [Prod.mk.injEq] at hp
  obtain ⟨rfl, rfl, rfl⟩ := hp
  exact (mach_pushD g most s b S w _ _ hM g1 hd).mono fun _ _ ⟨h1, h2, h3⟩ => ⟨_, _, _, h1, Kd.R_nil _ _ _ _ _, h2.mono (fun k h => .inl h), h3, zz19, fun h => by simp at h⟩
 ·
  rw [if_neg hd] at hp
  obtain ⟨⟨s1, x1, e1⟩, hs⟩ : ∃ q, stepM most s b = q := ⟨_, rfl⟩
  rw [hs] at hp
  by_cases he : e1 = 0
  ·
   subst he
   have sg := step_good most s b k hG' hb (by rw [hs])
   have pg := push_good most s b k hG' hb (by rw [hs])
   rw [hs] at sg pg
   simp only [ne_eq, not_true_eq_false, if_false, Prod.mk.injEq] at hp
   obtain ⟨rfl, rfl, rfl⟩ := hp
   obtain ⟨a1, a2, a3, a4, a5, a6, a7⟩ := sg
   simp only at a6 a7
   exact (mach_pushS g most s s1 x1 b S w hM g1 (by simpa using hd) g2 g3 zz4 hby hs zz4 zz4 zz4).mono fun _ _ ⟨v, h1, h2, h3, h4, h5⟩ => ⟨v, _, _, h1, h2, h3, h4, h5, fun _ => ⟨(close_came s1).symm, rfl, pg⟩⟩
  ·
   rw [if_pos he] at hp
   simp only [Prod.mk.injEq] at hp
   obtain ⟨rfl, rfl, rfl⟩ := hp
   exact (mach_pushE g most s s1 x1 e1 b S w hM g1 (by simpa using hd) g2 g3 zz4 hby hs he).mono fun _ _ ⟨rc, ro, h1, h2, h3⟩ => ⟨_, _, _, h1, Kd.R_nil _ _ _ _ _, h2, h3, zz19, fun h => absurd h he⟩
theorem mach_doneW (g most : Nat) (s : St) (S : Nat → Prop) (w : World) (rc : List Int) (ro : Int) (d : Bool) (hM : Mc w S g most s rc ro) (hd : done s = d) :
 Calls Try.prog 41 #[.pointer (some ⟨g, 0, none⟩)] w fun e w' => e = .returned (.bool d) ∧ w = w' := mach_doneE g most s d S w rc ro hM hd
theorem k_free : ∀ (w : World) (b b' : Nat) (o o' : Nat → Prop) (x : Ev) (cs : List Value), k34.M w b o x cs → k34.M w b' o' x cs := by
 intro w b b' o o' x cs h
 obtain rfl := k34_openM h
 exact k34_mkM w b' o' x
theorem k_km (W : World) : ∀ (x : Ev) (cs : List Value), k34.K W x cs → k34.M W 0 (fun _ => False) x cs := by
 intro x cs h
 obtain rfl := k34_open h
 exact k34_mkM W 0 _ x
theorem runM_step (most : Nat) (s s' : St) (b : Int) (x : List Ev) (e : Int) (r : List Int) (i : Int) (acc : List Ev) (h : pushM most s b = (s', x, e)) : runM most s (b :: r) i acc = if e ≠ 0 then (acc, e, i) else runM most s' r (i + 1) (acc ++ x) := by
 simp only [runM]; rw [h]
def event_Whole.f (a0 : ByteArray) (a1 : Int) : Option (List Ev × Int × Int) := if a0.size ≤ 700 then some (wholeM (mn (mx a1 0) 64).toNat (bytesOf a0)) else none
set_option maxHeartbeats 16000000 in
set_option maxRecDepth 100000 in
theorem event_Whole.calls (a0 : ByteArray) (a1 : Int) (r1 : List Ev) (r2 : Int) (r3 : Int) (w : World) (h : event_Whole.f a0 a1 = some (r1, r2, r3)) :
 Calls Try.prog 23 #[.string a0, .int .i64 a1] w fun e w' => ∃ v0_ : Value, e = .returned (.tuple #[v0_, .int .i64 r2, .int .i64 r3]) ∧ Kd.R k34 34 w' w.heap.size (fun _ => True) v0_ r1 ∧ Below w.heap.size w w' := by
 unfold event_Whole.f at h
 have hsz : a0.size ≤ 700 := by
  by_cases hz : a0.size ≤ 700
  ·
   exact hz
  ·
   rw [if_neg hz] at h; exact absurd h zz19
 rw [if_pos hsz] at h
 obtain ⟨most, hmost⟩ : ∃ q, (mn (mx a1 0) 64).toNat = q := ⟨_, rfl⟩
 rw [hmost] at h
 have hrun : runM most init0 (bytesOf a0) 0 [] = (r1, r2, r3) := Option.some.inj h
 have HM := Aside0.mk hmost
 have HRUN := Aside0.mk hrun
 have hs2 : (a0.size : Int) ≤ 9223372036854775807 := by omega
 clear h hrun hmost
 go_enter Try.func23, Try.ntmps23
 go_wp2_with (first
  | (go_at_call 39
     (with_reducible refine (mach_new a1 w).mono ?_)
     rintro e w1 ⟨g, rfl, h1, h2⟩
     rw [HM.out] at h1
     have M1 := Aside0.mk h1
     have U1 := Aside0.mk h2
     clear h1 h2))
 go_loopg [8, 16] a0.size (fun gk v8 v16 wr => ∃ (k : Nat) (s : St) (xs : List Ev), v16 = .int .i64 (k : Int) ∧ Aside0 (k ≤ a0.size ∧ a0.size - k ≤ gk ∧ GoodM s k ∧ xs.length ≤ k * 200 ∧ runM most s ((bytesOf a0).drop k) (k : Int) xs = (r1, r2, r3)) ∧ Aside0 (k34.R 34 wr 0 (New w None0) v8 xs) ∧ Aside0 (Mc wr (New w None0) g most s s.came 0) ∧ Aside0 (Upd None0 w wr))
 case atStart => exact ⟨0, init0, [], rfl, ⟨Nat.zero_le _, zz4, ⟨rfl, zz8, zz8, by simp [init0], fun x hx => by simp [init0] at hx, rfl⟩, zz19, HRUN.out⟩, ⟨Kd.R_nil _ _ _ _ _⟩, M1, U1⟩
 case round =>
  obtain ⟨k, s, xs, rfl, HI, HR, HMc, HU⟩ := hrel
  obtain ⟨A1, c1, rfl⟩ := Kd.R_slice HR.out
  clear M1 U1
  have hk0 : (0 : Int) ≤ (k : Int) := by omega
  have hkm : (k : Int) ≤ 700 := by have := HI.out.1; omega
  by_cases hlt : k < a0.size
  ·
   have hltd : decide ((k : Int) < (a0.size : Int)) = true := decide_eq_true zz4
   have hlti : (k : Int) < (a0.size : Int) := by omega
   obtain ⟨b, hb⟩ : ∃ q, bt a0 (k : Int) = q := ⟨_, rfl⟩
   have hbx : ∀ h : k < a0.size, (((a0[k]'h).toNat : Nat) : Int) = b := by rw [← hb]; exact bt_at a0 (k : Int)
   have hbr := bt_range a0 (k : Int)
   rw [hb] at hbr
   obtain ⟨⟨s', x, e'⟩, hp⟩ : ∃ q, pushM most s b = q := ⟨_, rfl⟩
   have hrun := HI.out.2.2.2.2
   have hdrop : (bytesOf a0).drop k = b :: (bytesOf a0).drop (k + 1) := by
    have := BId.drop_at a0 (k : Int) hk0 zz4
    rw [hb] at this
    simpa using this
   rw [hdrop, runM_step most s s' b x e' _ _ _ hp] at hrun
   have HRN := Aside0.mk hrun
   have HPS := Aside0.mk hp
   have HBR := Aside0.mk (show 0 ≤ b ∧ b < 256 by omega)
   clear hrun hdrop hp hbr hb
   by_cases he : e' = 0
   ·
    subst he
    obtain ⟨xs2, hxs2⟩ : ∃ q, xs ++ x = q := ⟨_, rfl⟩
    have HX2 := Aside0.mk hxs2
    have HXL := Aside0.mk (show xs.length ≤ 200000 by have := HI.out.2.2.2.1; omega)
    clear hxs2
    go_wp2_with (first
     | (go_at_call 40
        (with_reducible refine (mach_push g most s s' x 0 b k (Bnd wr [126, 141, 143, 5] (New w None0)) _ HMc.out.bnd HI.out.2.2.1 (by have := HI.out.1; omega) HBR.out HPS.out).mono ?_)
        rintro e w2 ⟨v2, rc, ro, rfl, q1, q2, q3, q4, q5⟩
        obtain ⟨A3, c3, rfl⟩ := Kd.R_slice q1
        have R2 := Aside0.mk (row_mono q1 (fun k h => h.elim (fun h => h.elim) (fun h => (.inr (Nat.le_trans HU.out.size h) : New w None0 k))))
        have R1 := Aside0.mk (row_mono (row_upd (Bnd.row HR.out (E := 34 :: k34.E) (fun _ h => h)) q3 (fun k h1 h2 => bnd_apart zz8 h1 h2)) Bnd.of)
        have U2 := Aside0.mk (HU.out.trans q3 (fun k hk => hk.1.elim (fun h => h.elim) (fun h => .inr h)))
        obtain ⟨rfl, rfl, q6⟩ := q5 rfl
        have M2 := Aside0.mk (q2.mono (fun k h => h.elim (fun h => h.1) (fun h => (.inr (Nat.le_trans HU.out.size h) : New w None0 k))))
        have G2 := Aside0.mk q6
        have X2 := Aside0.mk q4
        clear q1 q2 q3 q4 q5 q6)
     | ((with_reducible refine gate_builtin (b := .append) (xs := #[.tmp 32, .tmp 33]) rfl ?_); at_builtin
        refine row_append_rows (k34) (S := New w None0) rfl (.tmp 32) (.tmp 33) 25 34 (.agg #[.int .i64 0, .int .i64 0, .int .i64 0, .int .i64 0, .bool false, .int .i64 0, .int .u8 0]) 56 rfl Try.underlying25 info34 rfl zz8 zz4 (.slice A1 xs.length c1) xs x A3 x.length c3 rfl rfl ?aO ?aR ?aM ?aL xs2 HX2.out ?_
        (case aO => exact R1.out); (case aR => exact (Kd.R_reads' R2.out).2.2); (case aM => exact k_km _); (case aL => have := HXL.out; have := X2.out; omega)
        intro v4 w3 ho hu
        have M3 := Aside0.mk (M2.out.updR R1.out zz8 hu)
        have U3 := Aside0.mk (U2.out.trans hu (fun k hk => (row_at R1.out hk)))
        have R3 := Aside0.mk (row_mono ho (fun k hk => hk.elim id (fun h => (.inr (Nat.le_trans U2.out.size h) : New w None0 k))))
        clear ho hu))
    go_roundg (gk - 1)
    case measure => have := HI.out.2.1; omega
    case rel =>
     refine ⟨k + 1, s', xs2, zz19, ⟨zz4, by have := HI.out.2.1; omega, G2.out, by rw [← HX2.out, List.length_append]; have := HI.out.2.2.2.1; have := X2.out; omega, ?_⟩, R3, M3, ⟨U3.out⟩⟩
     have := HRN.out
     rw [if_neg zz19, HX2.out] at this
     simpa using this
   ·
    have HRN2 : Aside0 ((xs, e', (k : Int)) = (r1, r2, r3)) := ⟨by have := HRN.out; rw [if_pos he] at this; exact this⟩
    have y1 : (e' == 0) = false := beq_eq_false_iff_ne.2 he
    clear HRN
    go_wp2_with (first
     | (go_at_call 40
        (with_reducible refine (mach_push g most s s' x e' b k (Bnd wr [126, 141, 143, 5] (New w None0)) _ HMc.out.bnd HI.out.2.2.1 (by have := HI.out.1; omega) HBR.out HPS.out).mono ?_)
        rintro e w2 ⟨v2, rc, ro, rfl, q1, q2, q3, q4, q5⟩
        obtain ⟨A3, c3, rfl⟩ := Kd.R_slice q1
        have R2 := Aside0.mk (row_mono q1 (fun k h => h.elim (fun h => h.elim) (fun h => (.inr (Nat.le_trans HU.out.size h) : New w None0 k))))
        have R1 := Aside0.mk (row_mono (row_upd (Bnd.row HR.out (E := 34 :: k34.E) (fun _ h => h)) q3 (fun k h1 h2 => bnd_apart zz8 h1 h2)) Bnd.of)
        have U2 := Aside0.mk (HU.out.trans q3 (fun k hk => hk.1.elim (fun h => h.elim) (fun h => .inr h)))
        skip
        clear q1 q2 q3 q4 q5))
    go_ret3
    have h5 := HRN2.out
    simp only [Prod.mk.injEq] at h5
    obtain ⟨rfl, rfl, rfl⟩ := h5
    exact ⟨_, rfl, row_raise k_free R1.out (fun k hk => hk.elim (fun h => h.elim) id), U2.out.below0⟩
  ·
   have hltd : decide ((k : Int) < (a0.size : Int)) = false := decide_eq_false zz4
   have hk : k = a0.size := by have := HI.out.1; omega
   obtain ⟨d, hd⟩ : ∃ q, done s = q := ⟨_, rfl⟩
   have h5 := HI.out.2.2.2.2
   rw [List.drop_eq_nil_of_le (by have := bytesOf_length a0; omega)] at h5
   simp only [runM, hd, Prod.mk.injEq] at h5
   obtain ⟨h51, h52, h53⟩ := h5
   have HD := Aside0.mk hd
   have H52 := Aside0.mk h52
   subst h51 h53
   clear hd h52
   cases d with
   | false =>
     go_wp2_with (first
      | (go_at_call 41
         (with_reducible refine (mach_doneW g most s _ _ _ _ false HMc.out HD.out).mono ?_)
         rintro e w2 ⟨rfl, rfl⟩))
     go_ret3
     have h6 := H52.out
     simp at h6
     subst h6
     exact ⟨_, by subst hk; rfl, row_raise k_free HR.out (fun k hk => hk.elim (fun h => h.elim) id), HU.out.below0⟩
   | true =>
     go_wp2_with (first
      | (go_at_call 41
         (with_reducible refine (mach_doneW g most s _ _ _ _ true HMc.out HD.out).mono ?_)
         rintro e w2 ⟨rfl, rfl⟩))
     go_ret3
     have h6 := H52.out
     simp at h6
     subst h6
     exact ⟨_, by subst hk; rfl, row_raise k_free HR.out (fun k hk => hk.elim (fun h => h.elim) id), HU.out.below0⟩
end Go.Proofs.Ytcfommconnlhgaa.PC
