-- Written by a program of this session (print2, a turned print): not PRINTED BY print.sh
import Derived.Test.YtomaajagncjiiaaPCx6p5
namespace Go.Proofs.Ytomaajagncjiiaa.PC
open Go.RowKit Go.Proofs.YtomaajagncjiiaaW.PrintWords Go.Proofs.YtomaajagncjiiaaW.PrintLast Go.Proofs.YtomaajagncjiiaaW.PrintMore
attribute [local go_sem] max2_int min2_int max_two min_two max_three min_three max_four min_four   -- for this text's walks alone
set_option linter.unusedVariables false
set_option linter.unusedSimpArgs false


open Go.Proofs.Ytomaajagncjiiaa.Own
set_option maxHeartbeats 8000000 in
set_option maxRecDepth 100000 in
theorem mach_new (n : Int) (w : World) :
    Calls Try.prog 18 #[.int .i64 n] w fun e w' => ∃ g : Nat, e = .returned (.pointer (some ⟨g, 0, none⟩)) ∧ Mc w' (New w None0) g (mn (mx n 0) 64).toNat init0 [] 0 ∧ Upd None0 w w' := by
  have hu_ := Try.underlying58
  go_enter Try.func18, Try.ntmps18
  go_wp2_with (first
    | (go_at_call 26
       (with_reducible refine (stack_new n _).mono ?_)
       rintro e w1 ⟨gs, rfl, hs, hu⟩
       have PK := Aside0.mk hs
       have HU := Aside0.mk hu
       clear hs hu)
    | (go_at_call 27
       (with_reducible refine (reader_new _).mono ?_)
       rintro e w2 ⟨gr, rfl, hs, hu⟩
       have PR := Aside0.mk (hs.mono (fun k hk => hk.elim (fun h => h.elim) (fun h => (.inr (Nat.le_trans HU.out.size h) : New w None0 k))))
       have n1 := Aside0.mk (PK.out.updN hu)
       have n2 := Aside0.mk (HU.out.trans hu (fun _ h => h.elim))
       clear PK HU hs hu; have PK := n1; have HU := n2; clear n1 n2)
    | ((with_reducible refine gate_dst (N := 7) rfl ?_)
       refine boxnew ?hg (N := 7) ?hd (cs := #[.pointer (some ⟨gs, 0, none⟩), .pointer (some ⟨gr, 0, none⟩), .slice none 0 0, .int .i64 0, .int .i64 0, .bool false, .int .i64 0]) (t := 58) ?hr ?_; (case hd => rfl); (case hg => rfl); (case hr => first | (go_simp; done) | (go_simp; rfl))
       intro g hge w3 hbox hu
       have n1 := Aside0.mk (PK.out.updN hu)
       have n2 := Aside0.mk (HU.out.trans hu (fun _ h => h.elim))
       have n3 := Aside0.mk (PR.out.updN hu)
       have GE := Aside0.mk (Nat.le_trans HU.out.size hge)
       have BK := Aside0.mk hbox
       clear PK HU PR hu hbox hge; have PK := n1; have HU := n2; have PR := n3; clear n1 n2 n3))
  go_ret
  exact ⟨_, rfl, ⟨_, _, .slice none 0 0, _, None0, .inr GE.out, BK.out, PK.out, PR.out, Kd.R_nil _ _ _ _ _, fun k h => h, fun k h => h.elim, fun k _ h => h⟩, HU.out⟩
/-- What holds between the bytes. -/
def GoodM (s : St) (k : Nat) : Prop := s.over = 0 ∧ 0 ≤ s.leaf ∧ s.leaf ≤ 2305843009213693951 ∧ s.came.length ≤ k ∧ Idm.Bytes s.came ∧ s.at_ = (k : Int)
theorem bytes_snoc {l : List Int} {b : Int} (h : Idm.Bytes l) (hb : 0 ≤ b ∧ b < 256) : Idm.Bytes (l ++ [b]) := by
  intro x hx
  rcases List.mem_append.1 hx with hx | hx
  · exact h x hx
  · rw [List.mem_singleton.1 hx]; exact hb
theorem ends_len (s : St) (n : Int) : (ends s n).length ≤ 1 := by unfold ends; split <;> simp
theorem step_good (most : Nat) (s : St) (b : Int) (k : Nat) (hG : GoodM s k) (hb : 0 ≤ b ∧ b < 256) (h : (stepM most s b).2.2 = 0) :
    (stepM most s b).1.over = 0 ∧ 0 ≤ (stepM most s b).1.leaf ∧ (stepM most s b).1.leaf ≤ 2305843009213693951 ∧ (stepM most s b).1.came.length ≤ k + 1 ∧ Idm.Bytes (stepM most s b).1.came ∧ (stepM most s b).1.at_ = (k : Int) ∧ (stepM most s b).2.1.length ≤ 2 := by
  obtain ⟨g1, g2, g3, g4, g5, g6⟩ := hG
  have hby := bytes_snoc g5 hb
  have hln : (s.came ++ [b]).length ≤ k + 1 := by simp; omega
  unfold stepM at h ⊢
  by_cases h1 : 0 < s.leaf
  · rw [if_pos h1]
    have := ends_len s (s.leaf - 1)
    exact ⟨g1, by simp only [contentM]; omega, by simp only [contentM]; omega, by simp only [contentM, takeM]; omega, g5, g6, by simp only [contentM, List.length_cons]; omega⟩
  rw [if_neg h1] at h ⊢
  by_cases h2 : (Mxm.tk s.left).2 ≠ 0
  · rw [if_pos h2] at h; exact absurd h h2
  rw [if_neg h2] at h ⊢
  by_cases h3 : er (s.came ++ [b]) = 2
  · rw [if_pos h3]
    exact ⟨g1, g2, g3, hln, hby, g6, by simp⟩
  rw [if_neg h3] at h ⊢
  by_cases h4 : er (s.came ++ [b]) ≠ 0
  · rw [if_pos h4] at h; exact absurd h h4
  rw [if_neg h4] at h ⊢
  have hz : er (s.came ++ [b]) = 0 := by simpa using h4
  have hv := Hdm.hg_back (s.came ++ [b]) _ _ _ _ _ hby (show Hdm.hg (s.came ++ [b]) = ((Hdm.hg (s.came ++ [b])).1, (Hdm.hg (s.came ++ [b])).2.1, (Hdm.hg (s.came ++ [b])).2.2.1, (Hdm.hg (s.came ++ [b])).2.2.2.1, (Hdm.hg (s.came ++ [b])).2.2.2.2.1, 0) from Prod.ext rfl (Prod.ext rfl (Prod.ext rfl (Prod.ext rfl (Prod.ext rfl hz)))))
  have n0 : 0 ≤ (hd (s.came ++ [b])).f3 := hv.1.2.1
  have n1 : (hd (s.came ++ [b])).f3 ≤ 2305843009213693951 := hv.1.2.2
  generalize hd (s.came ++ [b]) = hh at *
  unfold beginM at h ⊢
  split
  · rename_i h5; rw [if_pos h5] at h; simp at h
  · rename_i h5
    rw [if_neg h5] at h
    split
    · rename_i h6
      rw [if_pos h6] at h
      split
      · rename_i h7; rw [if_pos h7] at h; exact absurd h h7
      · exact ⟨g1, g2, g3, by simp, fun x hx => by simp at hx, g6, by simp⟩
    · exact ⟨g1, n0, n1, by simp, fun x hx => by simp at hx, g6, Nat.succ_le_succ (ends_len _ _)⟩
theorem push_good (most : Nat) (s : St) (b : Int) (k : Nat) (hG : GoodM s k) (hb : 0 ≤ b ∧ b < 256) (h : (stepM most s b).2.2 = 0) : GoodM (closeM (stepM most s b).1).1 (k + 1) := by
  obtain ⟨a1, a2, a3, a4, a5, a6, _⟩ := step_good most s b k hG hb h
  unfold closeM
  split
  · exact ⟨a1, a2, a3, a4, a5, by simp only [a6]; omega⟩
  · exact ⟨a1, a2, a3, a4, a5, by simp only [a6]; omega⟩
theorem close_came (s : St) : (closeM s).1.came = s.came := by unfold closeM; split <;> rfl
/-- A byte comes to a machine that is right. -/
theorem mach_push (g most : Nat) (s s' : St) (x : List Ev) (e' b : Int) (k : Nat) (S : Nat → Prop) (w : World) (hM : Mc w S g most s s.came 0) (hG : GoodM s k) (hk : k ≤ 800) (hb : 0 ≤ b ∧ b < 256) (hp : pushM most s b = (s', x, e')) :
    Calls Try.prog 19 #[.pointer (some ⟨g, 0, none⟩), .int .u8 b] w fun e w' => ∃ v rc ro, e = .returned (.tuple #[v, .int .i64 e']) ∧ k36.R 36 w' 0 (New w None0) v x ∧ Mc w' (New w S) g most s' rc ro ∧ Upd S w w' ∧ x.length ≤ 200 ∧ (e' = 0 → rc = s'.came ∧ ro = 0 ∧ GoodM s' (k + 1)) := by
  have hG' := hG
  obtain ⟨g1, g2, g3, g4, g5, g6⟩ := hG
  have hby := bytes_snoc g5 hb
  unfold pushM at hp
  rw [if_neg (by simp [g1])] at hp
  by_cases hd : done s = true
  · rw [if_pos hd] at hp
    simp only [Prod.mk.injEq] at hp
    obtain ⟨rfl, rfl, rfl⟩ := hp
    exact (mach_pushD g most s b S w _ _ hM g1 hd).mono fun _ _ ⟨h1, h2, h3⟩ => ⟨_, _, _, h1, Kd.R_nil _ _ _ _ _, h2.mono (fun k h => .inl h), h3, by simp, fun h => by simp at h⟩
  · rw [if_neg hd] at hp
    obtain ⟨⟨s1, x1, e1⟩, hs⟩ : ∃ q, stepM most s b = q := ⟨_, rfl⟩
    rw [hs] at hp
    by_cases he : e1 = 0
    · subst he
      have sg := step_good most s b k hG' hb (by rw [hs])
      have pg := push_good most s b k hG' hb (by rw [hs])
      rw [hs] at sg pg
      simp only [ne_eq, not_true_eq_false, if_false, Prod.mk.injEq] at hp
      obtain ⟨rfl, rfl, rfl⟩ := hp
      obtain ⟨a1, a2, a3, a4, a5, a6, a7⟩ := sg
      simp only at a6 a7
      exact (mach_pushS g most s s1 x1 b S w hM g1 (by simpa using hd) g2 g3 (by omega) hby hs (by omega) (by omega) (by omega)).mono fun _ _ ⟨v, h1, h2, h3, h4, h5⟩ => ⟨v, _, _, h1, h2, h3, h4, h5, fun _ => ⟨(close_came s1).symm, rfl, pg⟩⟩
    · rw [if_pos he] at hp
      simp only [Prod.mk.injEq] at hp
      obtain ⟨rfl, rfl, rfl⟩ := hp
      exact (mach_pushE g most s s1 x1 e1 b S w hM g1 (by simpa using hd) g2 g3 (by omega) hby hs he).mono fun _ _ ⟨rc, ro, h1, h2, h3⟩ => ⟨_, _, _, h1, Kd.R_nil _ _ _ _ _, h2, h3, by simp, fun h => absurd h he⟩
theorem mach_doneW (g most : Nat) (s : St) (S : Nat → Prop) (w : World) (rc : List Int) (ro : Int) (d : Bool) (hM : Mc w S g most s rc ro) (hd : done s = d) :
    Calls Try.prog 21 #[.pointer (some ⟨g, 0, none⟩)] w fun e w' => e = .returned (.bool d) ∧ w = w' := mach_doneE g most s d S w rc ro hM hd
theorem k_free : ∀ (w : World) (b b' : Nat) (o o' : Nat → Prop) (x : Ev) (cs : List Value), k36.M w b o x cs → k36.M w b' o' x cs := by
  intro w b b' o o' x cs h
  obtain rfl := k36_openM h
  exact k36_mkM w b' o' x
theorem k_km (W : World) : ∀ (x : Ev) (cs : List Value), k36.K W x cs → k36.M W 0 (fun _ => False) x cs := by
  intro x cs h
  obtain rfl := k36_open h
  exact k36_mkM W 0 _ x
theorem runM_step (most : Nat) (s s' : St) (b : Int) (x : List Ev) (e : Int) (r : List Int) (i : Int) (acc : List Ev) (h : pushM most s b = (s', x, e)) : runM most s (b :: r) i acc = if e ≠ 0 then (acc, e, i) else runM most s' r (i + 1) (acc ++ x) := by
  simp only [runM]; rw [h]
def event_Whole.f (a0 : ByteArray) (a1 : Int) : Option (List Ev × Int × Int) := if a0.size ≤ 700 then some (wholeM (mn (mx a1 0) 64).toNat (bytesOf a0)) else none
set_option maxHeartbeats 16000000 in
set_option maxRecDepth 100000 in
theorem event_Whole.calls (a0 : ByteArray) (a1 : Int) (r1 : List Ev) (r2 : Int) (r3 : Int) (w : World) (h : event_Whole.f a0 a1 = some (r1, r2, r3)) :
    Calls Try.prog 13 #[.string a0, .int .i64 a1] w fun e w' => ∃ v0_ : Value, e = .returned (.tuple #[v0_, .int .i64 r2, .int .i64 r3]) ∧ Kd.R k36 36 w' w.heap.size (fun _ => True) v0_ r1 ∧ Below w.heap.size w w' := by
  unfold event_Whole.f at h
  have hsz : a0.size ≤ 700 := by
    by_cases hz : a0.size ≤ 700
    · exact hz
    · rw [if_neg hz] at h; exact absurd h (by simp)
  rw [if_pos hsz] at h
  obtain ⟨most, hmost⟩ : ∃ q, (mn (mx a1 0) 64).toNat = q := ⟨_, rfl⟩
  rw [hmost] at h
  have hrun : runM most init0 (bytesOf a0) 0 [] = (r1, r2, r3) := Option.some.inj h
  have HM := Aside0.mk hmost
  have HRUN := Aside0.mk hrun
  have hs2 : (a0.size : Int) ≤ 9223372036854775807 := by omega
  clear h hrun hmost
  go_enter Try.func13, Try.ntmps13
  go_wp2_with (first
    | (go_at_call 18
       (with_reducible refine (mach_new a1 w).mono ?_)
       rintro e w1 ⟨g, rfl, h1, h2⟩
       rw [HM.out] at h1
       have M1 := Aside0.mk h1
       have U1 := Aside0.mk h2
       clear h1 h2))
  go_loopg [8, 16] a0.size (fun gk v8 v16 wr => ∃ (k : Nat) (s : St) (xs : List Ev), v16 = .int .i64 (k : Int) ∧ Aside0 (k ≤ a0.size ∧ a0.size - k ≤ gk ∧ GoodM s k ∧ xs.length ≤ k * 200 ∧ runM most s ((bytesOf a0).drop k) (k : Int) xs = (r1, r2, r3)) ∧ Aside0 (k36.R 36 wr 0 (New w None0) v8 xs) ∧ Aside0 (Mc wr (New w None0) g most s s.came 0) ∧ Aside0 (Upd None0 w wr))
  case atStart => exact ⟨0, init0, [], rfl, ⟨Nat.zero_le _, by omega, ⟨rfl, by decide, by decide, by simp [init0], fun x hx => by simp [init0] at hx, rfl⟩, by simp, HRUN.out⟩, ⟨Kd.R_nil _ _ _ _ _⟩, M1, U1⟩
  case round =>
    obtain ⟨k, s, xs, rfl, HI, HR, HMc, HU⟩ := hrel
    obtain ⟨A1, c1, rfl⟩ := Kd.R_slice HR.out
    clear M1 U1
    have hk0 : (0 : Int) ≤ (k : Int) := by omega
    have hkm : (k : Int) ≤ 700 := by have := HI.out.1; omega
    by_cases hlt : k < a0.size
    · have hltd : decide ((k : Int) < (a0.size : Int)) = true := decide_eq_true (by omega)
      have hlti : (k : Int) < (a0.size : Int) := by omega
      obtain ⟨b, hb⟩ : ∃ q, bt a0 (k : Int) = q := ⟨_, rfl⟩
      have hbx : ∀ h : k < a0.size, (((a0[k]'h).toNat : Nat) : Int) = b := by rw [← hb]; exact bt_at a0 (k : Int)
      have hbr := bt_range a0 (k : Int)
      rw [hb] at hbr
      obtain ⟨⟨s', x, e'⟩, hp⟩ : ∃ q, pushM most s b = q := ⟨_, rfl⟩
      have hrun := HI.out.2.2.2.2
      have hdrop : (bytesOf a0).drop k = b :: (bytesOf a0).drop (k + 1) := by
        have := BId.drop_at a0 (k : Int) hk0 (by omega)
        rw [hb] at this
        simpa using this
      rw [hdrop, runM_step most s s' b x e' _ _ _ hp] at hrun
      have HRN := Aside0.mk hrun
      have HPS := Aside0.mk hp
      have HBR := Aside0.mk (show 0 ≤ b ∧ b < 256 by omega)
      clear hrun hdrop hp hbr hb
      by_cases he : e' = 0
      · subst he
        obtain ⟨xs2, hxs2⟩ : ∃ q, xs ++ x = q := ⟨_, rfl⟩
        have HX2 := Aside0.mk hxs2
        have HXL := Aside0.mk (show xs.length ≤ 200000 by have := HI.out.2.2.2.1; omega)
        clear hxs2
        go_wp2_with (first
          | (go_at_call 19
             (with_reducible refine (mach_push g most s s' x 0 b k (Bnd wr [58, 70, 72, 5] (New w None0)) _ HMc.out.bnd HI.out.2.2.1 (by have := HI.out.1; omega) HBR.out HPS.out).mono ?_)
             rintro e w2 ⟨v2, rc, ro, rfl, q1, q2, q3, q4, q5⟩
             obtain ⟨A3, c3, rfl⟩ := Kd.R_slice q1
             have R2 := Aside0.mk (row_mono q1 (fun k h => h.elim (fun h => h.elim) (fun h => (.inr (Nat.le_trans HU.out.size h) : New w None0 k))))
             have R1 := Aside0.mk (row_mono (row_upd (Bnd.row HR.out (E := 36 :: k36.E) (fun _ h => h)) q3 (fun k h1 h2 => bnd_apart (by decide) h1 h2)) Bnd.of)
             have U2 := Aside0.mk (HU.out.trans q3 (fun k hk => hk.1.elim (fun h => h.elim) (fun h => .inr h)))
             obtain ⟨rfl, rfl, q6⟩ := q5 rfl
             have M2 := Aside0.mk (q2.mono (fun k h => h.elim (fun h => h.1) (fun h => (.inr (Nat.le_trans HU.out.size h) : New w None0 k))))
             have G2 := Aside0.mk q6
             have X2 := Aside0.mk q4
             clear q1 q2 q3 q4 q5 q6)
          | ((with_reducible refine gate_builtin (b := .append) (xs := #[.tmp 32, .tmp 33]) rfl ?_); at_builtin
             refine row_append_rows (k36) (S := New w None0) rfl (.tmp 32) (.tmp 33) 24 36 (.agg #[.int .i64 0, .int .i64 0, .int .i64 0, .int .i64 0, .bool false, .int .i64 0, .int .u8 0]) 56 rfl Try.underlying24 info36 rfl (by decide) (by omega) (.slice A1 xs.length c1) xs x A3 x.length c3 rfl rfl ?aO ?aR ?aM ?aL xs2 HX2.out ?_
             (case aO => exact R1.out); (case aR => exact (Kd.R_reads' R2.out).2.2); (case aM => exact k_km _); (case aL => have := HXL.out; have := X2.out; omega)
             intro v4 w3 ho hu
             have M3 := Aside0.mk (M2.out.updR R1.out (by decide) hu)
             have U3 := Aside0.mk (U2.out.trans hu (fun k hk => (row_at R1.out hk)))
             have R3 := Aside0.mk (row_mono ho (fun k hk => hk.elim id (fun h => (.inr (Nat.le_trans U2.out.size h) : New w None0 k))))
             clear ho hu))
        go_roundg (gk - 1)
        case measure => have := HI.out.2.1; omega
        case rel =>
          refine ⟨k + 1, s', xs2, by simp, ⟨by omega, by have := HI.out.2.1; omega, G2.out, by rw [← HX2.out, List.length_append]; have := HI.out.2.2.2.1; have := X2.out; omega, ?_⟩, R3, M3, ⟨U3.out⟩⟩
          have := HRN.out
          rw [if_neg (by simp), HX2.out] at this
          simpa using this
      · have HRN2 : Aside0 ((xs, e', (k : Int)) = (r1, r2, r3)) := ⟨by have := HRN.out; rw [if_pos he] at this; exact this⟩
        have y1 : (e' == 0) = false := beq_eq_false_iff_ne.2 he
        clear HRN
        go_wp2_with (first
          | (go_at_call 19
             (with_reducible refine (mach_push g most s s' x e' b k (Bnd wr [58, 70, 72, 5] (New w None0)) _ HMc.out.bnd HI.out.2.2.1 (by have := HI.out.1; omega) HBR.out HPS.out).mono ?_)
             rintro e w2 ⟨v2, rc, ro, rfl, q1, q2, q3, q4, q5⟩
             obtain ⟨A3, c3, rfl⟩ := Kd.R_slice q1
             have R2 := Aside0.mk (row_mono q1 (fun k h => h.elim (fun h => h.elim) (fun h => (.inr (Nat.le_trans HU.out.size h) : New w None0 k))))
             have R1 := Aside0.mk (row_mono (row_upd (Bnd.row HR.out (E := 36 :: k36.E) (fun _ h => h)) q3 (fun k h1 h2 => bnd_apart (by decide) h1 h2)) Bnd.of)
             have U2 := Aside0.mk (HU.out.trans q3 (fun k hk => hk.1.elim (fun h => h.elim) (fun h => .inr h)))
             skip
             clear q1 q2 q3 q4 q5))
        go_ret3
        have h5 := HRN2.out
        simp only [Prod.mk.injEq] at h5
        obtain ⟨rfl, rfl, rfl⟩ := h5
        exact ⟨_, rfl, row_raise k_free R1.out (fun k hk => hk.elim (fun h => h.elim) id), U2.out.below0⟩
    · have hltd : decide ((k : Int) < (a0.size : Int)) = false := decide_eq_false (by omega)
      have hk : k = a0.size := by have := HI.out.1; omega
      obtain ⟨d, hd⟩ : ∃ q, done s = q := ⟨_, rfl⟩
      have h5 := HI.out.2.2.2.2
      rw [List.drop_eq_nil_of_le (by have := bytesOf_length a0; omega)] at h5
      simp only [runM, hd, Prod.mk.injEq] at h5
      obtain ⟨h51, h52, h53⟩ := h5
      have HD := Aside0.mk hd
      have H52 := Aside0.mk h52
      subst h51 h53
      clear hd h52
      cases d with
      | false =>
        go_wp2_with (first
          | (go_at_call 21
             (with_reducible refine (mach_doneW g most s _ _ _ _ false HMc.out HD.out).mono ?_)
             rintro e w2 ⟨rfl, rfl⟩))
        go_ret3
        have h6 := H52.out
        simp at h6
        subst h6
        exact ⟨_, by subst hk; rfl, row_raise k_free HR.out (fun k hk => hk.elim (fun h => h.elim) id), HU.out.below0⟩
      | true =>
        go_wp2_with (first
          | (go_at_call 21
             (with_reducible refine (mach_doneW g most s _ _ _ _ true HMc.out HD.out).mono ?_)
             rintro e w2 ⟨rfl, rfl⟩))
        go_ret3
        have h6 := H52.out
        simp at h6
        subst h6
        exact ⟨_, by subst hk; rfl, row_raise k_free HR.out (fun k hk => hk.elim (fun h => h.elim) id), HU.out.below0⟩

end Go.Proofs.Ytomaajagncjiiaa.PC
