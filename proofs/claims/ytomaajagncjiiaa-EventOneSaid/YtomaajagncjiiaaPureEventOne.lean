/- The plain law of EventOne: a primitive element brings about its head, each byte of its content, and its end; one around it a head ahead, and an exit behind. -/
import Derived.Test.YtomaajagncjiiaaMEh
import Derived.Test.YtomaajagncjiiaaBRf
import Derived.Test.YtomaajagncjiiaaPBx11
namespace Go.Proofs.Ytomaajagncjiiaa.Pure
open Go.RowKit Go.Proofs.Ytomaajagncjiiaa.PB Go.Proofs.YtomaajagncjiiaaW.PrintWords Go.Proofs.YtomaajagncjiiaaW.PrintLast Go.Proofs.YtomaajagncjiiaaW.PrintMore
set_option linter.unusedVariables false
set_option linter.unusedSimpArgs false

def te (i : Int) (C : List Int) : List Ev := if C = [] then [ev 4 (i - 1) h0 0] else bodyE i C
def ex (at_ : Int) (l : List Int) : List Ev := if l = [] then [] else [ev 5 at_ h0 0]
theorem runM_nil (most : Nat) (s : St) (i : Int) (acc : List Ev) (h : done s = true) : runM most s [] i acc = (acc, 0, i) := by
  unfold runM; rw [if_pos h]
/-- A whole primitive element. -/
theorem leaf_elem (most : Nat) (s : St) (c t : Int) (C : List Int) (hw : Hdm.Whole c t (C.length : Int)) (p : Nat) (hp : p = (Hdm.hdenc c t false (C.length : Int)).length) (h0 : s.over = 0) (hl : s.leaf = 0) (hd : done s = false) (hc : s.came = []) (hx : s.left = [] ∨ s.left = [((p + C.length : Nat) : Int)])
    (acc : List Ev) (i : Int) (ha : s.at_ = i) :
    runM most s (Hdm.hdenc c t false (C.length : Int) ++ C) i acc = (acc ++ (ev 2 (i + (p : Int) - 1) ⟨c, t, false, (C.length : Int)⟩ 0 :: (te (i + (p : Int)) C ++ ex (i + (p : Int) + (C.length : Int) - 1) s.left)), 0, i + (p : Int) + (C.length : Int)) := by
  have hxx : ∀ x r, s.left = x :: r → (p : Int) ≤ x := by
    intro x r hxr
    rcases hx with hx | hx
    · rw [hx] at hxr; exact absurd hxr (by simp)
    · rw [hx] at hxr
      have := (List.cons.inj hxr).1
      omega
  have hdl : dc p s.left = [] ∧ s.left = [] ∨ dc p s.left = [(C.length : Int)] ∧ s.left ≠ [] := by
    rcases hx with hx | hx
    · exact .inl ⟨by rw [hx]; rfl, hx⟩
    · refine .inr ⟨?_, by rw [hx]; simp⟩
      rw [hx]; simp only [dc]
      refine congrArg (· :: []) ?_
      omega
  generalize hH : Hdm.hdenc c t false (C.length : Int) = H at *
  have hb : beginM most { sj s H p with at_ := s.at_ + (p : Int) - 1 } ⟨c, t, false, (C.length : Int)⟩ = ({ sj s H p with at_ := s.at_ + (p : Int) - 1, came := [], leaf := (C.length : Int), begun := true }, ev 2 (i + (p : Int) - 1) ⟨c, t, false, (C.length : Int)⟩ 0 :: ends { sj s H p with at_ := s.at_ + (p : Int) - 1 } (C.length : Int), 0) := by
    unfold beginM
    rw [if_neg (by simp only [sj]; rcases hdl with ⟨h1, _⟩ | ⟨h1, _⟩ <;> rw [h1] <;> simp), if_neg (by simp)]
    simp only [ha]
  have hr := head_run most s c t (C.length : Int) false hw p (by rw [hH]; exact hp) h0 hl hd hc hxx C acc i _ _ 0 (by rw [hH]; exact hb)
  rw [hH] at hr
  rw [hr, if_neg (by decide)]
  by_cases hC : C = []
  · subst hC
    simp only [List.length_nil] at *
    have hdl' : dc p s.left = [] ∧ s.left = [] ∨ dc p s.left = [0] ∧ s.left ≠ [] := hdl
    have hcl : closeM { sj s H p with at_ := s.at_ + (p : Int) - 1, came := [], leaf := ((0 : Nat) : Int), begun := true } = ({ sj s H p with at_ := s.at_ + (p : Int), came := [], leaf := 0, begun := true, left := [] }, ex (i + (p : Int) - 1) s.left) := by
      unfold closeM
      rw [if_pos ⟨rfl, rfl⟩]
      rcases hdl' with ⟨h1, h2⟩ | ⟨h1, h2⟩
      · simp only [sj, h1, exits]
        simp only [ex, h2, if_true, Prod.mk.injEq, St.mk.injEq, true_and, and_true]
        exact ⟨rfl, by omega⟩
      · simp only [sj, h1, exits, if_true]
        simp only [ex, h2, if_false, Prod.mk.injEq, St.mk.injEq, true_and, and_true]
        exact ⟨⟨rfl, by omega⟩, by rw [ha]⟩
    rw [hcl]
    rw [runM_nil _ _ _ _ (by simp [done])]
    simp [ends, te, sj, ha]
  · have hcl : closeM { sj s H p with at_ := s.at_ + (p : Int) - 1, came := [], leaf := (C.length : Int), begun := true } = ({ sj s H p with at_ := s.at_ + (p : Int), came := [], leaf := (C.length : Int), begun := true }, []) := by
      have : C.length ≠ 0 := fun h => hC (List.eq_nil_of_length_eq_zero h)
      unfold closeM
      rw [if_neg (by simp only; omega)]
      simp only [Prod.mk.injEq, St.mk.injEq, true_and, and_true]
      omega
    have hn : C.length ≠ 0 := fun h => hC (List.eq_nil_of_length_eq_zero h)
    rw [hcl]
    have hcr := content_run most [] C { sj s H p with at_ := s.at_ + (p : Int), came := [], leaf := (C.length : Int), begun := true } (i + (p : Int)) (acc ++ (ev 2 (i + (p : Int) - 1) ⟨c, t, false, (C.length : Int)⟩ 0 :: ends { sj s H p with at_ := s.at_ + (p : Int) - 1 } (C.length : Int) ++ [])) hC h0 rfl rfl (by simp only [ha]) (by
      intro x r hxr
      simp only [sj] at hxr
      rcases hdl with ⟨h1, h2⟩ | ⟨h1, h2⟩
      · rw [h1] at hxr; exact absurd hxr (by simp)
      · rw [h1] at hxr
        have := (List.cons.inj hxr).1
        omega)
    rw [List.append_nil] at hcr
    simp only [List.append_nil] at hcr ⊢
    rw [hcr]
    have hdd : dc C.length (dc p s.left) = [] ∧ s.left = [] ∨ dc C.length (dc p s.left) = [0] ∧ s.left ≠ [] := by
      rcases hdl with ⟨h1, h2⟩ | ⟨h1, h2⟩
      · exact .inl ⟨by rw [h1]; rfl, h2⟩
      · exact .inr ⟨by rw [h1]; simp [dc], h2⟩
    have hex : (exits (i + (p : Int) + (C.length : Int) - 1) (dc C.length (dc p s.left))) = ([], ex (i + (p : Int) + (C.length : Int) - 1) s.left) := by
      rcases hdd with ⟨h1, h2⟩ | ⟨h1, h2⟩
      · rw [h1]; simp only [exits, ex, h2, if_true]
      · rw [h1]; simp only [exits, ex, h2, if_true, if_false]
    have hcl2 : done (closeM { left := dc C.length (dc p s.left), came := [], leaf := 0, at_ := i + (p : Int) + (C.length : Int) - 1, begun := true, over := s.over }).1 = true := by
      unfold closeM
      rw [if_pos ⟨rfl, rfl⟩]
      simp only
      rw [hex]
      simp [done]
    simp only [show (sj s H p).left = dc p s.left from rfl, show (sj s H p).over = s.over from rfl]
    rw [runM_nil _ _ _ _ hcl2, hex]
    simp only [ends, if_neg (show ¬ (C.length : Int) = 0 by omega), te, if_neg hC, if_true, List.append_assoc, List.cons_append, List.nil_append]
theorem sub_sh (x d : Int) : x + d - x = d := by omega
theorem done0 : done init0 = false := rfl
def sh (d : Int) (y : Ev) : Ev := ⟨y.f0, y.f1 + d, y.f2, y.f3⟩
theorem bodyE_sh (d : Int) : ∀ (C : List Int) (i : Int), bodyE (i + d) C = (bodyE i C).map (sh d)
  | [], i => rfl
  | [b], i => by simp [bodyE, sh, ev]
  | b :: b2 :: r, i => by
    have ih := bodyE_sh d (b2 :: r) (i + 1)
    simp only [bodyE, List.map_cons]
    rw [← ih, show i + 1 + d = i + d + 1 by omega]
    rfl
theorem te_sh (d i : Int) (C : List Int) : te (i + d) C = (te i C).map (sh d) := by
  unfold te
  split
  · simp [sh, ev]; omega
  · exact bodyE_sh d C i
theorem te_len (i : Int) (C : List Int) : (te i C).length = C.length + 1 := by
  unfold te
  split
  · rename_i h; rw [h]; rfl
  · rename_i h; exact bodyE_len C i h
theorem one_l0 (x5 : ByteArray) (l m : List Ev) (d : Int) (hl : l.length ≤ 1000) (hm : m.length = l.length + 2) (hs : ∀ j (h : j < l.length), m[j + 1]'(by omega) = sh d (l[j])) (h0 : 0 < l.length) (e0 : Aside0 ((m[0]'(by omega)).f0 = 1)) (e1 : Aside0 ((m[0]'(by omega)).f2.f3 = (x5.size : Int))) (e2 : Aside0 ((m[m.length - 1]'(by omega)).f0 = 5)) :
    ∀ (n k j : Nat), j + n = l.length → n < k → gantletlaw09_EventOne.l0 k x5 l m l (l.length : Int) (j : Int) = some true
  | n, 0, j, h, hk => absurd hk (by omega)
  | 0, k + 1, j, h, hk => by
    simp only [gantletlaw09_EventOne.l0]
    have w1 : wrap64 ((m.length : Int) - 1) = ((m.length - 1 : Nat) : Int) := by rw [Bs.w64 (by omega) (by omega)]; omega
    rw [if_neg (by omega), if_pos (by omega), rd_drop0 m (by omega), if_pos e0.out, if_pos e1.out, w1, if_pos (by omega), if_pos (by omega), rd_drop m (m.length - 1) (by omega), e2.out]
    rfl
  | n + 1, k + 1, j, h, hk => by
    have hj : j < l.length := by omega
    have ew : wrap64 ((j : Int) + 1) = ((j + 1 : Nat) : Int) := by rw [Bs.w64 (by omega) (by omega)]; omega
    simp only [gantletlaw09_EventOne.l0]
    rw [if_pos (by omega), if_pos (by omega), if_pos (by omega), ew, if_pos (by omega), if_pos (by omega), rd_drop l j hj, rd_drop m (j + 1) (by omega), hs j hj, rd_drop0 l (by omega), rd_drop1 m (by omega), hs 0 h0]
    rw [if_pos (show (l[j]).f0 = (sh d l[j]).f0 from rfl), if_neg (by simp [sh]), if_pos (show (l[j]).f3 = (sh d l[j]).f3 from rfl), if_pos (by omega), if_pos (by omega)]
    have q1 : (sh d l[j]).f1 - (l[j]).f1 = d := sub_sh _ _
    have q2 : (sh d l[0]).f1 - (l[0]).f1 = d := sub_sh _ _
    rw [if_pos (by rw [q1, q2])]
    clear q1 q2
    exact one_l0 x5 l m d hl hm hs h0 e0 e1 e2 n k (j + 1) (by omega) (by omega)
where
  rd_drop0 (l : List Ev) (h : 0 < l.length) : rd_T36 l 0 = l[0] := rd_drop l 0 h
  rd_drop1 (l : List Ev) (h : 1 < l.length) : rd_T36 l 1 = l[1] := rd_drop l 1 h
theorem element_ok (k : Nat) (t : Int) (cons : Bool) (z : ByteArray) (hw : Hdm.Whole 0 t (z.size : Int)) (hz : z.size ≤ 400) (hk : 20 ≤ k) : ∃ b : ByteArray, gantletref09_Element.f k 0 t cons 0 z = some b ∧ bytesOf b = Hdm.hdenc 0 t cons (z.size : Int) ++ bytesOf z := by
  have hl := (Hdm.hdenc_len cons hw).2.2
  have hby : Idm.Bytes (Hdm.hdenc 0 t cons (z.size : Int)) := Hdm.hdenc_bytes hw
  have hsz : (strOfNums (Hdm.hdenc 0 t cons (z.size : Int))).size = (Hdm.hdenc 0 t cons (z.size : Int)).length := by rw [← bytesOf_length, Bs.bytesOf_nums _ hby]
  refine ⟨strOfNums (Hdm.hdenc 0 t cons (z.size : Int)) ++ z, ?_, by rw [Bs.bytesOf_append, Bs.bytesOf_nums _ hby]⟩
  unfold gantletref09_Element.f
  rw [BHd.rhput_ok k cons hw hk, Option.bind_some]
  simp only
  rw [if_pos (by rw [hsz]; omega)]
theorem EventOne (a0 : Int) (a1 : ByteArray) (_ : (Lit.int .i64 a0).wf = true) (_ : a1.size ≤ 140737488351232) : ∃ k, gantletlaw09_EventOne.f k a0 a1 = some true := by
  refine ⟨2002, ?_⟩
  unfold gantletlaw09_EventOne.f
  rw [awake_ok _ (by decide), Option.bind_some, if_pos rfl]
  have hj : gantletlaw09_EventOne.j0 2002 a0 a1 true = some true := by
    simp only [gantletlaw09_EventOne.j0, if_true]
    rw [awake_ok _ (by decide), Option.bind_some]
  by_cases h1 : a0 < 0
  · rw [if_pos h1]; exact hj
  rw [if_neg h1]
  by_cases h2 : a0 > 268435455
  · rw [if_pos h2]; exact hj
  rw [if_neg h2]
  by_cases h3 : (a1.size : Int) > 200
  · rw [show decide ((a1.size : Int) > 200) = true from decide_eq_true h3]; exact hj
  rw [show decide ((a1.size : Int) > 200) = false from decide_eq_false h3]
  simp only [gantletlaw09_EventOne.j0, Bool.false_eq_true, if_false]
  have hw1 : Hdm.Whole 0 a0 (a1.size : Int) := ⟨⟨by decide, by decide, by omega, by omega⟩, by omega, by simp only [Lenm.MaxLen]; omega⟩
  have hl1 := (Hdm.hdenc_len false hw1).2
  obtain ⟨b, hb1, hb2⟩ := element_ok 2001 a0 false a1 hw1 (by omega) (by decide)
  have hbz : b.size = (Hdm.hdenc 0 a0 false (a1.size : Int)).length + a1.size := by rw [← bytesOf_length, hb2, List.length_append, bytesOf_length]
  have hw2 : Hdm.Whole 0 16 (b.size : Int) := ⟨⟨by decide, by decide, by decide, by decide⟩, by omega, by simp only [Lenm.MaxLen]; omega⟩
  have hl2 := (Hdm.hdenc_len true hw2).2
  obtain ⟨b2, hc1, hc2⟩ := element_ok 2001 16 true b hw2 (by omega) (by decide)
  have hb2z : b2.size = (Hdm.hdenc 0 16 true (b.size : Int)).length + b.size := by rw [← bytesOf_length, hc2, List.length_append, bytesOf_length]
  have m1 : (mn (mx 1 0) 64).toNat = 1 := by decide
  have ev1 : event_Whole.f b 1 = some (wholeM 1 (bytesOf b)) := by unfold event_Whole.f; rw [if_pos (by omega), m1]
  have ev2 : event_Whole.f b2 1 = some (wholeM 1 (bytesOf b2)) := by unfold event_Whole.f; rw [if_pos (by omega), m1]
  rw [hb1, Option.bind_some, ev1, Option.bind_some, hc1, Option.bind_some, ev2, Option.bind_some]
  generalize hC : bytesOf a1 = C at *
  have hCl : a1.size = C.length := by rw [← hC, bytesOf_length]
  rw [hCl] at hw1 hl1 hb2 hbz h3
  rw [hCl]
  generalize hH1 : Hdm.hdenc 0 a0 false (C.length : Int) = H1 at *
  generalize hH2 : Hdm.hdenc 0 16 true (b.size : Int) = H2 at *
  -- the primitive element
  have r1 : wholeM 1 (bytesOf b) = (ev 2 ((H1.length : Int) - 1) ⟨0, a0, false, (C.length : Int)⟩ 0 :: te (H1.length : Int) C, 0, (H1.length : Int) + (C.length : Int)) := by
    have := leaf_elem 1 init0 0 a0 C hw1 H1.length (by rw [hH1]) rfl rfl rfl rfl (.inl rfl) [] 0 rfl
    rw [hH1, ← hb2] at this
    unfold wholeM
    rw [this]
    simp [ex, init0]
  -- the one around it
  have r2 : wholeM 1 (bytesOf b2) = (ev 1 ((H2.length : Int) - 1) ⟨0, 16, true, (b.size : Int)⟩ 0 :: ev 2 ((H2.length : Int) + (H1.length : Int) - 1) ⟨0, a0, false, (C.length : Int)⟩ 0 :: (te ((H2.length : Int) + (H1.length : Int)) C ++ [ev 5 ((H2.length : Int) + (H1.length : Int) + (C.length : Int) - 1) h0 0]), 0, (H2.length : Int) + (H1.length : Int) + (C.length : Int)) := by
    have hb : beginM 1 { sj init0 H2 H2.length with at_ := init0.at_ + (H2.length : Int) - 1 } ⟨0, 16, true, (b.size : Int)⟩ = ({ sj init0 H2 H2.length with at_ := (H2.length : Int) - 1, came := [], left := [(b.size : Int)], begun := true }, [ev 1 ((H2.length : Int) - 1) ⟨0, 16, true, (b.size : Int)⟩ 0], 0) := by
      unfold beginM
      simp [sj, init0, dc, Mxm.en]
    have hr := head_run 1 init0 0 16 (b.size : Int) true hw2 H2.length (by rw [hH2]) rfl rfl rfl rfl (fun x r h => by simp [init0] at h) (bytesOf b) [] 0 _ _ 0 (by rw [hH2]; exact hb)
    rw [hH2, ← hc2, if_neg (by decide)] at hr
    have hcl : closeM { sj init0 H2 H2.length with at_ := (H2.length : Int) - 1, came := [], left := [(b.size : Int)], begun := true } = ({ sj init0 H2 H2.length with at_ := (H2.length : Int), came := [], left := [(b.size : Int)], begun := true }, []) := by
      unfold closeM
      rw [if_pos ⟨rfl, rfl⟩]
      simp only [exits, if_neg (show ¬ (b.size : Int) = 0 by omega)]
      simp only [Prod.mk.injEq, St.mk.injEq, true_and, and_true]
      omega
    rw [hcl] at hr
    have hle := leaf_elem 1 { sj init0 H2 H2.length with at_ := (H2.length : Int), came := [], left := [(b.size : Int)], begun := true } 0 a0 C hw1 H1.length (by rw [hH1]) rfl rfl (by simp [done]) rfl (.inr (by rw [hbz])) ([] ++ ([ev 1 ((H2.length : Int) - 1) ⟨0, 16, true, (b.size : Int)⟩ 0] ++ [])) (H2.length : Int) rfl
    rw [hH1, ← hb2] at hle
    unfold wholeM
    rw [hr, show (0 : Int) + (H2.length : Int) = (H2.length : Int) by omega, hle]
    simp [ex]
  rw [r1, r2]
  have tl := te_len (H1.length : Int) C
  have tl2 := te_len ((H2.length : Int) + (H1.length : Int)) C
  have ts : te ((H2.length : Int) + (H1.length : Int)) C = (te (H1.length : Int) C).map (sh (H2.length : Int)) := by rw [← te_sh, Int.add_comm]
  simp only [if_true]
  rw [if_pos (by rw [List.length_cons, tl, Bs.w64 (by omega) (by omega)]; omega)]
  have hne : (((ev 1 ((H2.length : Int) - 1) ⟨0, 16, true, (b.size : Int)⟩ 0 :: ev 2 ((H2.length : Int) + (H1.length : Int) - 1) ⟨0, a0, false, (C.length : Int)⟩ 0 :: (te ((H2.length : Int) + (H1.length : Int)) C ++ [ev 5 ((H2.length : Int) + (H1.length : Int) + (C.length : Int) - 1) h0 0])).length : Int) != (wrap64 (((ev 2 ((H1.length : Int) - 1) ⟨0, a0, false, (C.length : Int)⟩ 0 :: te (H1.length : Int) C).length : Int) + 2))) = false := by
    rw [Bs.w64 (by rw [List.length_cons, tl]; omega) (by rw [List.length_cons, tl]; omega)]
    simp only [List.length_cons, List.length_append, List.length_nil, tl, tl2]
    simp; omega
  rw [hne]
  simp only [gantletlaw09_EventOne.j1, Bool.false_eq_true, if_false]
  refine one_l0 b _ _ (H2.length : Int) ?_ ?_ ?_ ?_ ⟨rfl⟩ ⟨rfl⟩ ⟨?_⟩ _ 2000 0 (Nat.zero_add _) ?_
  · rw [List.length_cons, tl]; omega
  · simp only [List.length_cons, List.length_append, List.length_nil, tl, tl2]
  · intro j h
    cases j with
    | zero =>
      simp only [List.getElem_cons_succ, List.getElem_cons_zero, sh, ev]
      rw [show (H1.length : Int) - 1 + (H2.length : Int) = (H2.length : Int) + (H1.length : Int) - 1 by omega]
    | succ j =>
      simp only [List.getElem_cons_succ]
      rw [List.length_cons] at h
      rw [List.getElem_append_left (by omega)]
      simp only [ts, List.getElem_map]
  · simp
  · simp only [List.length_cons, List.length_append, List.length_nil, tl2]
    simp only [Nat.add_sub_cancel, List.getElem_cons_succ]
    rw [List.getElem_append_right (by omega)]
    simp [tl2, ev]
  · rw [List.length_cons, tl]; omega
end Go.Proofs.Ytomaajagncjiiaa.Pure
