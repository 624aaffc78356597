-- Written by a program of this session (print2, a turned print): not PRINTED BY print.sh
import Derived.Test.YtomaajagncjiiaaPBx7p6
namespace Go.Proofs.Ytomaajagncjiiaa.PB
open Go.RowKit Go.Proofs.YtomaajagncjiiaaW.PrintWords Go.Proofs.YtomaajagncjiiaaW.PrintLast Go.Proofs.YtomaajagncjiiaaW.PrintMore
attribute [local go_sem] max2_int min2_int max_two min_two max_three min_three max_four min_four   -- for this text's walks alone
set_option linter.unusedVariables false
set_option linter.unusedSimpArgs false


open Go.Proofs.Ytomaajagncjiiaa.Own
def cl (s : St) (l : List Int) : List Int × List Ev := if s.leaf = 0 ∧ s.came = [] then exits s.at_ l else (l, [])
theorem closeM_cl (s : St) : closeM s = ({ s with left := (cl s s.left).1, at_ := s.at_ + 1 }, (cl s s.left).2) := by
  unfold closeM cl
  split <;> rfl
theorem stack_leaveE (g most : Nat) (left l2 : List Int) (d : Bool) (S : Nat → Prop) (w : World) (hS : Sk w S g most left) (he : Mxm.lv left = (l2, d)) :
    Calls Try.prog 29 #[.pointer (some ⟨g, 0, none⟩)] w fun e w' => e = .returned (.bool d) ∧ Sk w' S g most l2 ∧ Upd S w w' := by
  have h := stack_leave g most left S w hS
  rw [he] at h
  exact h
set_option maxHeartbeats 16000000 in
set_option maxRecDepth 100000 in
theorem mach_pushS (g most : Nat) (s s1 : St) (x1 : List Ev) (b : Int) (S : Nat → Prop) (w : World) (hM : Mc w S g most s s.came 0) (ho : s.over = 0) (hd : done s = false) (hl0 : 0 ≤ s.leaf) (hl1 : s.leaf ≤ 2305843009213693951) (hcl : s.came.length ≤ 900) (hb : Idm.Bytes (s.came ++ [b])) (hs : stepM most s b = (s1, x1, 0)) (ha0 : 0 ≤ s1.at_) (ha1 : s1.at_ ≤ 1000000) (hx : x1.length ≤ 100) :
    Calls Try.prog 19 #[.pointer (some ⟨g, 0, none⟩), .int .u8 b] w fun e w' => ∃ v, e = .returned (.tuple #[v, .int .i64 0]) ∧ k36.R 36 w' 0 (New w None0) v (x1 ++ (closeM s1).2) ∧ Mc w' (New w S) g most (closeM s1).1 s1.came 0 ∧ Upd S w w' ∧ (x1 ++ (closeM s1).2).length ≤ 200 := by
  have HM := Aside0.mk hM
  obtain ⟨gs, gr, v, hb0, hg, _⟩ := hM.opn
  have HG := Aside0.mk hg
  have HD := Aside0.mk hd
  have HS := Aside0.mk hs
  have HB := Aside0.mk hb
  have HX := Aside0.mk hx
  have HL := Aside0.mk (And.intro hl0 (And.intro hl1 hcl))
  have hc6 : w.cell? ⟨g, 6, none⟩ = some (.int .i64 0) := by rw [← ho]; exact (blk_cell hb0 6).trans rfl
  clear hb0 hM ho hg hd hs hb hl0 hl1 hcl hx
  go_enter Try.func19, Try.ntmps19
  go_wp2_with (first
    | (go_at_call 21
       (with_reducible refine (mach_doneE g most s false S _ _ _ HM.out HD.out).mono ?_)
       rintro e w1 ⟨rfl, rfl⟩)
    | (go_at_call 28
       (with_reducible refine (mach_stepE g most s s1 x1 0 b S _ HM.out HL.out.1 HL.out.2.1 HL.out.2.2 HB.out HS.out).mono ?_)
       rintro e w1 ⟨v1, rc1, ro1, rfl, h1, h2, h3, h4⟩
       obtain ⟨rfl, rfl⟩ := h3 rfl
       obtain ⟨A0, c0, rfl⟩ := Kd.R_slice h1
       have M1 := Aside0.mk h2
       have R1 := Aside0.mk h1
       have U1 := Aside0.mk h4
       clear h1 h2 h3 h4))
  go_loopg [6] s1.left.length (fun gk v6 wr => ∃ (l1 : List Int) (xs : List Ev), Aside0 ((cl s1 l1).1 = (cl s1 s1.left).1 ∧ xs ++ (cl s1 l1).2 = x1 ++ (cl s1 s1.left).2 ∧ l1.length ≤ gk ∧ xs.length + l1.length ≤ x1.length + s1.left.length) ∧ Aside0 (k36.R 36 wr 0 (New w None0) v6 xs) ∧ Aside0 (Mc wr (New w S) g most { s1 with left := l1 } s1.came 0) ∧ Aside0 (Upd S w wr))
  case atStart => exact ⟨s1.left, x1, ⟨rfl, rfl, Nat.le_refl _, Nat.le_refl _⟩, R1, M1, U1⟩
  case round =>
    obtain ⟨l1, xs, HI, HR, HM1, HU1⟩ := hrel
    have hlen : s1.left.length ≤ 64 := by obtain ⟨_, _, _, _, _, hk0, _⟩ := M1.out.opn; obtain ⟨_, _, _, _, _, _, _, h1_, h2_, _⟩ := hk0; omega
    have HLEN := Aside0.mk hlen
    clear hlen R1 M1 U1 hc6
    obtain ⟨A1, c1, rfl⟩ := Kd.R_slice HR.out
    obtain ⟨gs, gr, v, hb1, _, hk1, hr1, hput1, hle1⟩ := HM1.out.opn
    obtain ⟨A2, c2, rfl⟩ := Kd.R_slice hr1
    have BG1 := Aside0.mk hb1
    have HP1 := Aside0.mk hput1
    have HLE := Aside0.mk hle1
    have HK := Aside0.mk hk1
    have hd0 : wr.cell? ⟨g, 0, none⟩ = some (.pointer (some ⟨gs, 0, none⟩)) := (blk_cell hb1 0).trans rfl
    have hd2 : wr.cell? ⟨g, 2, none⟩ = some (.slice A2 s1.came.length c2) := (blk_cell hb1 2).trans rfl
    have hd3 : wr.cell? ⟨g, 3, none⟩ = some (.int .i64 s1.leaf) := (blk_cell hb1 3).trans rfl
    have hd4 : wr.cell? ⟨g, 4, none⟩ = some (.int .i64 s1.at_) := (blk_cell hb1 4).trans rfl
    clear hb1 hk1 hr1 hput1 hle1 HM1
    by_cases z1 : s1.leaf = 0
    · have y1 : (s1.leaf == 0) = true := beq_iff_eq.2 z1
      by_cases z2 : s1.came.length = 0
      · have y2 : ((s1.came.length : Int) == 0) = true := by rw [beq_iff_eq]; omega
        have ecl : ∀ l, cl s1 l = exits s1.at_ l := fun l => by unfold cl; rw [if_pos ⟨z1, List.eq_nil_of_length_eq_zero z2⟩]
        have ECL := Aside0.mk ecl
        clear z1 z2 ecl
        obtain ⟨⟨l2, d⟩, hlv⟩ : ∃ q, Mxm.lv l1 = q := ⟨_, rfl⟩
        have HLV := Aside0.mk hlv
        cases d with
        | false =>
          have HE : Aside0 (xs = x1 ++ (closeM s1).2 ∧ { s1 with left := l2, at_ := s1.at_ + 1 } = (closeM s1).1) := ⟨by
            have h := HI.out
            rw [ECL.out, ECL.out] at h
            have h2 : exits s1.at_ l1 = (l1, []) ∧ l2 = l1 := by
              cases l1 with
              | nil => simp [Mxm.lv] at hlv; exact ⟨rfl, hlv⟩
              | cons x r =>
                by_cases hx0 : x = 0
                · simp [Mxm.lv, hx0] at hlv
                · simp [Mxm.lv, hx0] at hlv; exact ⟨by simp [exits, hx0], hlv.symm⟩
            obtain ⟨h2, rfl⟩ := h2
            rw [h2] at h
            obtain ⟨g1, g2, _⟩ := h
            rw [closeM_cl, ECL.out]
            refine ⟨by simpa using g2, ?_⟩
            simp only at g1
            rw [← g1]⟩
          clear hlv
          go_wp2_with (first
            | (go_at_call 29
               (with_reducible refine (stack_leaveE gs most l1 l2 false _ _ HK.out.bnd HLV.out).mono ?_)
               rintro e w5 ⟨rfl, hs, hu⟩
               have m5 := HLE.out _ _ (hs.mono Bnd.of) hu
               have HU5 := Aside0.mk (HU1.out.trans hu (fun k hk => hk.1) : Upd S w w5)
               have HR5 := Aside0.mk (row_mono (row_upd (Bnd.row HR.out (E := 36 :: k36.E) (fun _ h => h)) hu (fun k h1 h2 => bnd_apart (by decide) h1 h2)) Bnd.of)
               obtain ⟨gs5, gr5, v5, hb5, _, _, _, hput5, _⟩ := m5.opn
               have HP5 := Aside0.mk hput5
               have BG5 := Aside0.mk hb5
               have hd4 : w5.cell? ⟨g, 4, none⟩ = some (.int .i64 s1.at_) := (blk_cell hb5 4).trans rfl
               clear hs hu m5 hput5 hb5)
            | ((with_reducible refine gate_store (t := 3) (p := 76) (v := .tmp 74) rfl ?_)
               refine cellput rfl 3 (.tmp 76) (.tmp 74) rfl rfl g 4 (.int .i64 (s1.at_ + 1)) rfl rfl 58 _ _ BG5.out (by kernel_rfl) (by simp) rfl rfl ?_
               intro w6 hbox hu
               have Q1 := Aside0.mk (HP5.out w6 { s1 with left := l2, at_ := s1.at_ + 1 } rfl rfl hu hbox)
               have Q2 := Aside0.mk (HU5.out.trans hu (fun k hk => by rw [hk]; exact .inl HG.out) : Upd S w w6)
               have Q3 := Aside0.mk (row_updT HR5.out BG5.out (by decide) hu)
               clear hbox hu))
          go_ret2
          obtain ⟨e1_, e2_⟩ := HE.out
          exact ⟨_, rfl, by rw [← e1_]; exact Q3.out, by rw [← e2_]; exact Q1.out, Q2.out, by have := HI.out.2.2.2; have := HLEN.out; have := HX.out; have h7_ := congrArg List.length e1_; rw [List.length_append] at h7_; first | omega | (rw [List.length_append]; omega)⟩
        | true =>
          obtain ⟨r, rfl, rfl⟩ : ∃ r, l1 = 0 :: r ∧ r = l2 := by
            cases l1 with
            | nil => simp [Mxm.lv] at hlv
            | cons x r =>
              by_cases hx0 : x = 0
              · subst hx0; simp [Mxm.lv] at hlv; exact ⟨r, rfl, hlv⟩
              · simp [Mxm.lv, hx0] at hlv
          have HXL := Aside0.mk (show xs.length ≤ 10000 by have := HI.out.2.2.2; have := HLEN.out; have := HX.out; omega)
          obtain ⟨xs2, hxs2⟩ : ∃ q, xs ++ [ev 5 s1.at_ h0 0] = q := ⟨_, rfl⟩
          have HXS := Aside0.mk hxs2
          clear hlv hxs2
          go_wp2_with (first
            | (go_at_call 29
               (with_reducible refine (stack_leaveE gs most (0 :: r) r true _ _ HK.out.bnd HLV.out).mono ?_)
               rintro e w5 ⟨rfl, hs, hu⟩
               have m5 := HLE.out _ _ (hs.mono Bnd.of) hu
               have M5 := Aside0.mk m5
               have HU5 := Aside0.mk (HU1.out.trans hu (fun k hk => hk.1) : Upd S w w5)
               have HR5 := Aside0.mk (row_mono (row_upd (Bnd.row HR.out (E := 36 :: k36.E) (fun _ h => h)) hu (fun k h1 h2 => bnd_apart (by decide) h1 h2)) Bnd.of)
               obtain ⟨gs5, gr5, v5, hb5, _, _, _, _, _⟩ := m5.opn
               have hd4 : w5.cell? ⟨g, 4, none⟩ = some (.int .i64 s1.at_) := (blk_cell hb5 4).trans rfl
               clear hs hu m5 hb5)
            | ((with_reducible refine gate_builtin (b := .append) (xs := #[.tmp 62, .tmp 68]) rfl ?_); at_builtin
               refine row_append (k36) (S := (New w None0)) rfl (.tmp 62) (.tmp 68) 24 36 (.agg #[.int .i64 0, .int .i64 0, .int .i64 0, .int .i64 0, .bool false, .int .i64 0, .int .u8 0]) 56 rfl Try.underlying24 info36 rfl (by decide) (by omega) (.slice A1 xs.length c1) (xs) (ev 5 s1.at_ h0 0) [.int .i64 5, .int .i64 s1.at_, .int .i64 0, .int .i64 0, .bool false, .int .i64 0, .int .u8 0] rfl rfl ?aP ?aO ?aL xs2 HXS.out ?_
               (case aP => exact k36_mkM _ _ _ _); (case aO => exact HR5.out); (case aL => have := HXL.out; omega)
               intro v2 w6 ho hu
               have Q1 := Aside0.mk (M5.out.updR HR5.out (by decide) hu)
               have Q2 := Aside0.mk (HU5.out.trans hu (fun k hk => (row_at HR5.out hk).elim (fun h => h.elim) .inr) : Upd S w w6)
               have Q3 := Aside0.mk (row_mono ho (fun k hk => hk.elim id (fun h => (.inr (Nat.le_trans HU5.out.size h) : New w None0 k))))
               clear ho hu))
          go_roundg (gk - 1)
          case measure => have := HI.out.2.2.1; simp at this; omega
          case rel =>
            refine ⟨r, xs2, ⟨?_⟩, Q3, Q1, Q2⟩
            have h := HI.out
            have hx0 : exits s1.at_ (0 :: r) = ((exits s1.at_ r).1, ev 5 s1.at_ h0 0 :: (exits s1.at_ r).2) := by simp [exits]
            rw [ECL.out (0 :: r), hx0] at h
            rw [ECL.out r, ← HXS.out]
            obtain ⟨g1, g2, g3, g4⟩ := h
            simp only [List.length_cons] at g3 g4
            exact ⟨g1, by rw [← g2]; simp, by omega, by rw [List.length_append]; simp; omega⟩
      · have y2 : ((s1.came.length : Int) == 0) = false := by rw [beq_eq_false_iff_ne]; omega
        have HE : Aside0 (xs = x1 ++ (closeM s1).2 ∧ { s1 with left := l1, at_ := s1.at_ + 1 } = (closeM s1).1) := ⟨by
          have h := HI.out
          have hn : ¬ (s1.leaf = 0 ∧ s1.came = []) := fun hh => z2 (by simp [hh.2])
          have e1 : ∀ l, cl s1 l = (l, []) := fun l => by unfold cl; rw [if_neg hn]
          rw [e1, e1] at h
          rw [closeM_cl, e1]
          refine ⟨by simpa using h.2.1, ?_⟩
          rw [← h.1]⟩
        clear z1 z2
        go_wp2_with (first
          | ((with_reducible refine gate_store (t := 3) (p := 76) (v := .tmp 74) rfl ?_)
             refine cellput rfl 3 (.tmp 76) (.tmp 74) rfl rfl g 4 (.int .i64 (s1.at_ + 1)) rfl rfl 58 _ _ BG1.out (by kernel_rfl) (by simp) rfl rfl ?_
             intro w6 hbox hu
             have Q1 := Aside0.mk (HP1.out w6 { s1 with left := l1, at_ := s1.at_ + 1 } rfl rfl hu hbox)
             have Q2 := Aside0.mk (HU1.out.trans hu (fun k hk => by rw [hk]; exact .inl HG.out) : Upd S w w6)
             have Q3 := Aside0.mk (row_updT HR.out BG1.out (by decide) hu)
             clear hbox hu))
        go_ret2
        obtain ⟨e1_, e2_⟩ := HE.out
        exact ⟨_, rfl, by rw [← e1_]; exact Q3.out, by rw [← e2_]; exact Q1.out, Q2.out, by have := HI.out.2.2.2; have := HLEN.out; have := HX.out; have h7_ := congrArg List.length e1_; rw [List.length_append] at h7_; first | omega | (rw [List.length_append]; omega)⟩
    · have y1 : (s1.leaf == 0) = false := beq_eq_false_iff_ne.2 z1
      have HE : Aside0 (xs = x1 ++ (closeM s1).2 ∧ { s1 with left := l1, at_ := s1.at_ + 1 } = (closeM s1).1) := ⟨by
        have h := HI.out
        have hn : ¬ (s1.leaf = 0 ∧ s1.came = []) := fun hh => z1 hh.1
        have e1 : ∀ l, cl s1 l = (l, []) := fun l => by unfold cl; rw [if_neg hn]
        rw [e1, e1] at h
        rw [closeM_cl, e1]
        refine ⟨by simpa using h.2.1, ?_⟩
        rw [← h.1]⟩
      clear z1
      go_wp2_with (first
        | ((with_reducible refine gate_store (t := 3) (p := 76) (v := .tmp 74) rfl ?_)
           refine cellput rfl 3 (.tmp 76) (.tmp 74) rfl rfl g 4 (.int .i64 (s1.at_ + 1)) rfl rfl 58 _ _ BG1.out (by kernel_rfl) (by simp) rfl rfl ?_
           intro w6 hbox hu
           have Q1 := Aside0.mk (HP1.out w6 { s1 with left := l1, at_ := s1.at_ + 1 } rfl rfl hu hbox)
           have Q2 := Aside0.mk (HU1.out.trans hu (fun k hk => by rw [hk]; exact .inl HG.out) : Upd S w w6)
           have Q3 := Aside0.mk (row_updT HR.out BG1.out (by decide) hu)
           clear hbox hu))
      go_ret2
      obtain ⟨e1_, e2_⟩ := HE.out
      exact ⟨_, rfl, by rw [← e1_]; exact Q3.out, by rw [← e2_]; exact Q1.out, Q2.out, by have := HI.out.2.2.2; have := HLEN.out; have := HX.out; have h7_ := congrArg List.length e1_; rw [List.length_append] at h7_; first | omega | (rw [List.length_append]; omega)⟩
end Go.Proofs.Ytomaajagncjiiaa.PB
