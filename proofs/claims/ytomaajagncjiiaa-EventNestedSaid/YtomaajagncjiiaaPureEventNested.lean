/- The plain law of EventNested: elements begin, and are over, one within the other; places never fall; behind a whole element all are over. -/
import Derived.Test.YtomaajagncjiiaaMEv
import Derived.Test.YtomaajagncjiiaaPBx11
namespace Go.Proofs.Ytomaajagncjiiaa.Pure
open Go.RowKit Go.Proofs.Ytomaajagncjiiaa.PB Go.Proofs.YtomaajagncjiiaaW.PrintWords Go.Proofs.YtomaajagncjiiaaW.PrintLast Go.Proofs.YtomaajagncjiiaaW.PrintMore
set_option linter.unusedVariables false
set_option linter.unusedSimpArgs false

/-- How many are open, whether a leaf is, and the last place: behind an event. -/
def nx (q : Int × Bool × Int) (y : Ev) : Int × Bool × Int := (if y.f0 = 1 then q.1 + 1 else if y.f0 = 5 then q.1 - 1 else q.1, if y.f0 = 2 ∨ y.f0 = 4 then !q.2.1 else q.2.1, y.f1)
def okN (a : ByteArray) (D : Int) (q : Int × Bool × Int) (y : Ev) : Prop :=
  q.2.2 ≤ y.f1 ∧ y.f1 < (a.size : Int) ∧ (y.f0 = 3 → q.2.1 = true ∧ 0 ≤ y.f1 ∧ y.f3 = bt a y.f1) ∧ 0 ≤ (nx q y).1 ∧ (nx q y).1 ≤ mx D 0 ∧ (nx q y).1 ≤ 1000 ∧ (nx q y).2.1 = (y.f0 == 2 || y.f0 == 3) ∧ (y.f0 = 1 ∨ y.f0 = 2 ∨ y.f0 = 3 ∨ y.f0 = 4 ∨ y.f0 = 5)
def okL (a : ByteArray) (D : Int) : Int × Bool × Int → List Ev → Prop
  | _, [] => True
  | q, y :: r => okN a D q y ∧ okL a D (nx q y) r
theorem okL_append (a : ByteArray) (D : Int) : ∀ (x y : List Ev) (q : Int × Bool × Int), okL a D q x → okL a D (x.foldl nx q) y → okL a D q (x ++ y)
  | [], y, q, h1, h2 => h2
  | z :: x, y, q, h1, h2 => ⟨h1.1, okL_append a D x y _ h1.2 h2⟩
theorem nested_l0 (a : ByteArray) (D x6 : Int) (l : List Ev) (hl : l.length ≤ 1000000) (qe : Int × Bool × Int) (he : x6 = 0 → qe.1 = 0 ∧ qe.2.1 = false) :
    ∀ (d k j : Nat) (o : Int) (lf : Bool) (last : Int), j + d = l.length → 4 * d + 1 ≤ k → okL a D (o, lf, last) (l.drop j) → (l.drop j).foldl nx (o, lf, last) = qe → 0 ≤ o → o ≤ 1000 → gantletlaw09_EventNested.l0 k a D x6 o lf last l (l.length : Int) (j : Int) = some true
  | 0, 0, j, o, lf, last, h, hk, hq, hf, ho0, ho1 => absurd hk (by omega)
  | 0, k + 1, j, o, lf, last, h, hk, hq, hf, ho0, ho1 => by
    simp only [gantletlaw09_EventNested.l0]
    rw [if_neg (by omega)]
    rw [List.drop_of_length_le (by omega)] at hf
    simp only [List.foldl_nil] at hf
    subst hf
    by_cases h6 : x6 = 0
    · rw [if_pos h6]
      have := he h6
      simp only at this
      rw [if_pos this.1, this.2]; rfl
    · rw [if_neg h6]
  | d + 1, k, j, o, lf, last, h, hk, hq, hf, ho0, ho1 => by
    obtain ⟨m, rfl⟩ : ∃ m, k = m + 4 := ⟨k - 4, by omega⟩
    have hm0 : 4 * d + 1 ≤ m := by omega
    have hj : j < l.length := by omega
    have e64 : wrap64 ((j : Int) + 1) = ((j + 1 : Nat) : Int) := by rw [Bs.w64 (by omega) (by omega)]; omega
    have hj1 : (j : Int) < (l.length : Int) := Int.ofNat_lt.2 hj
    have eo : wrap64 (o + 1) = o + 1 := Bs.w64 (by omega) (by omega)
    have em : wrap64 (o - 1) = o - 1 := Bs.w64 (by omega) (by omega)
    have hjd : j + 1 + d = l.length := by omega
    have hm3 : 4 * d + 1 ≤ m + 2 ∧ 4 * d + 1 ≤ m + 1 := by omega
    rw [List.drop_eq_getElem_cons hj] at hq hf
    obtain ⟨⟨b1, b2, b3, b4, b5, b9, b6, b7⟩, hr⟩ := hq
    simp only [List.foldl_cons] at hf
    simp only [gantletlaw09_EventNested.l0]
    rw [if_pos hj1, if_pos (Int.natCast_nonneg j), if_pos hj1, rd_drop l j hj, if_neg (show ¬ (l[j]).f1 < last from Int.not_lt.2 b1), show decide ((l[j]).f1 ≥ (a.size : Int)) = false from decide_eq_false (Int.not_le.2 b2)]
    generalize l[j] = y at *
    have nxt : ∀ k', 4 * d + 1 ≤ k' → gantletlaw09_EventNested.l0 k' a D x6 (nx (o, lf, last) y).1 (nx (o, lf, last) y).2.1 (nx (o, lf, last) y).2.2 l (l.length : Int) ((j + 1 : Nat) : Int) = some true := fun k' hk' =>
      nested_l0 a D x6 l hl qe he d k' (j + 1) _ _ _ hjd hk' hr hf b4 b9
    have n3 := nxt (m + 2) hm3.1
    have n2 := nxt (m + 1) hm3.2
    have n1 := nxt m hm0
    simp only [gantletlaw09_EventNested.j2, Bool.false_eq_true, if_false, e64, eo, em]
    simp only [nx] at b3 b4 b5 b6 n1 n2 n3
    rcases b7 with b7 | b7 | b7 | b7 | b7
    · simp only [b7, if_true, or_self, if_false, Int.reduceEq, reduceCtorEq] at b4 b5 b6 n1 n2 n3 ⊢
      simp only [show (((1 : Int) == 2) || ((1 : Int) == 3)) = false from rfl] at b6
      rw [if_neg (by omega), if_neg (by omega), show ((1 : Int) == 3) = false from rfl, b6]
      rw [if_neg (by decide)]
      rw [b6] at n3
      exact n3
    · simp only [b7, if_true, or_self, if_false, Int.reduceEq, reduceCtorEq, true_or] at b4 b5 b6 n1 n2 n3 ⊢
      simp only [gantletlaw09_EventNested.j3, e64, show ((2 : Int) == 2) = true from rfl, if_true, Bool.true_or] at b6 ⊢
      rw [if_neg (by omega), if_neg (by omega), b6]
      rw [if_neg (by decide)]
      rw [b6] at n2
      exact n2
    · have b33 := b3 b7
      simp only [b7, if_true, or_self, if_false, Int.reduceEq, reduceCtorEq, true_or] at b4 b5 b6 n1 n2 n3 ⊢
      simp only [gantletlaw09_EventNested.j3, e64, show ((3 : Int) == 4) = false from rfl, if_true, Bool.false_eq_true, if_false] at b6 ⊢
      rw [if_pos b33.1, if_pos b33.2.1, if_pos b2, b33.2.2]
      simp only [gantletlaw09_EventNested.j4, e64, bne_self_eq_false, Bool.false_eq_true, if_false, b7, Int.reduceEq, if_true]
      rw [if_neg (by omega), if_neg (by omega), show ((3 : Int) == 3) = true from rfl, b33.1]
      rw [if_neg (by decide)]
      rw [b33.1] at n1
      exact n1
    · simp only [b7, if_true, or_self, if_false, Int.reduceEq, reduceCtorEq, or_true] at b4 b5 b6 n1 n2 n3 ⊢
      simp only [gantletlaw09_EventNested.j3, e64, show ((4 : Int) == 4) = true from rfl, if_true] at b6 ⊢
      simp only [show (((4 : Int) == 2) || ((4 : Int) == 3)) = false from rfl] at b6
      simp only [b7, if_true, if_false, Int.reduceEq]
      rw [if_neg (by omega), if_neg (by omega), show ((4 : Int) == 3) = false from rfl, b6]
      rw [if_neg (by decide)]
      rw [b6] at n2
      exact n2
    · simp only [b7, if_true, or_self, if_false, Int.reduceEq, reduceCtorEq] at b4 b5 b6 n1 n2 n3 ⊢
      simp only [show (((5 : Int) == 2) || ((5 : Int) == 3)) = false from rfl] at b6
      rw [if_neg (by omega), if_neg (by omega), show ((5 : Int) == 3) = false from rfl, b6]
      rw [if_neg (by decide)]
      rw [b6] at n3
      exact n3
theorem exits_nest (a : ByteArray) (D at_ : Int) (h0 : at_ < (a.size : Int)) : ∀ (l : List Int) (last : Int), last ≤ at_ → (l.length : Int) ≤ mx D 0 → l.length ≤ 900 →
    okL a D ((l.length : Int), false, last) (exits at_ l).2 ∧ ((exits at_ l).2.foldl nx ((l.length : Int), false, last)).1 = ((exits at_ l).1.length : Int) ∧ ((exits at_ l).2.foldl nx ((l.length : Int), false, last)).2.1 = false ∧ ((exits at_ l).2.foldl nx ((l.length : Int), false, last)).2.2 ≤ at_
  | [], last, hl, hm, h9 => ⟨trivial, rfl, rfl, hl⟩
  | x :: r, last, hl, hm, h9 => by
    simp only [exits]
    split
    · simp only [List.length_cons] at hm h9
      have ih := exits_nest a D at_ h0 r at_ (Int.le_refl _) (by omega) (by omega)
      have e : nx (((x :: r).length : Int), false, last) (ev 5 at_ Go.Proofs.Ytomaajagncjiiaa.PB.h0 0) = ((r.length : Int), false, at_) := by
        simp only [nx, ev, Int.reduceEq, if_false, if_true, or_self, List.length_cons]
        rw [show ((r.length + 1 : Nat) : Int) - 1 = (r.length : Int) by omega]
      refine ⟨⟨⟨hl, h0, fun h => absurd h (by simp [ev]), ?_, ?_, ?_, ?_, by simp [ev]⟩, ?_⟩, ?_, ?_, ?_⟩
      all_goals (try rw [List.foldl_cons])
      all_goals (try rw [e])
      · simp only; omega
      · simp only; omega
      · simp only; omega
      · rfl
      · exact ih.1
      · exact ih.2.1
      · exact ih.2.2.1
      · exact ih.2.2.2
    · exact ⟨trivial, rfl, rfl, hl⟩
theorem ends_nest (a : ByteArray) (D : Int) (s : St) (n o last : Int) (h0 : s.at_ < (a.size : Int)) (hl : last ≤ s.at_) (ho : 0 ≤ o) (ho1 : o ≤ mx D 0) (ho2 : o ≤ 1000) (hn : 0 ≤ n) :
    okL a D (o, true, last) (ends s n) ∧ ((ends s n).foldl nx (o, true, last)).1 = o ∧ ((ends s n).foldl nx (o, true, last)).2.1 = decide (0 < n) ∧ ((ends s n).foldl nx (o, true, last)).2.2 ≤ s.at_ := by
  unfold ends
  split
  · rename_i h
    subst h
    refine ⟨⟨⟨hl, h0, fun h => absurd h (by simp [ev]), ?_, ?_, ?_, ?_, by simp [ev]⟩, trivial⟩, ?_, ?_, ?_⟩ <;> simp [nx, ev] <;> omega
  · refine ⟨trivial, rfl, ?_, hl⟩
    show true = decide (0 < n)
    exact (decide_eq_true (by omega)).symm
/-- A byte that is right. -/
theorem push_nest (a : ByteArray) (D : Int) (most : Nat) (hD : (most : Int) ≤ mx D 0) (hm : most ≤ 64) (s s' : St) (b : Int) (x : List Ev) (i : Nat) (last : Int) (hI : Inv most s i) (hb : 0 ≤ b ∧ b < 256) (hba : b = bt a (i : Int)) (hi : i < a.size) (hlast : last ≤ (i : Int)) (h : pushM most s b = (s', x, 0)) :
    okL a D ((s.left.length : Int), decide (0 < s.leaf), last) x ∧ (x.foldl nx ((s.left.length : Int), decide (0 < s.leaf), last)).1 = (s'.left.length : Int) ∧ (x.foldl nx ((s.left.length : Int), decide (0 < s.leaf), last)).2.1 = decide (0 < s'.leaf) ∧ (x.foldl nx ((s.left.length : Int), decide (0 < s.leaf), last)).2.2 ≤ (i : Int) := by
  obtain ⟨hd', s1, x1, hs, rfl, rfl⟩ := push_ok most s s' b x hI.over h
  have eat := hI.at_
  have hlen := hI.len
  have key : okL a D ((s.left.length : Int), decide (0 < s.leaf), last) x1 ∧ (x1.foldl nx ((s.left.length : Int), decide (0 < s.leaf), last)).1 = (s1.left.length : Int) ∧ (x1.foldl nx ((s.left.length : Int), decide (0 < s.leaf), last)).2.1 = decide (0 < s1.leaf) ∧ (x1.foldl nx ((s.left.length : Int), decide (0 < s.leaf), last)).2.2 ≤ (i : Int) ∧ s1.left.length ≤ most ∧ s1.at_ = (i : Int) := by
    have tl := tk_len s.left
    have tp := tk_pos s.left hI.left0
    have hby := bytes_snoc hI.bytes hb
    rcases step_cases most s s1 b x1 hs with ⟨g1, rfl, rfl⟩ | ⟨g1, g2, ⟨g3, rfl, rfl⟩ | ⟨g3, g4, ⟨g5, g6, rfl, rfl⟩ | ⟨g5, rfl, rfl⟩⟩⟩
    · rw [decide_eq_true g1]
      have e : nx ((s.left.length : Int), true, last) (ev 3 s.at_ h0 b) = ((s.left.length : Int), true, s.at_) := by simp [nx, ev]
      have en := ends_nest a D s (s.leaf - 1) (s.left.length : Int) s.at_ (by omega) (Int.le_refl _) (by omega) (by omega) (by omega) (by omega)
      refine ⟨⟨⟨by simp only [ev]; omega, by simp only [ev]; omega, fun _ => ⟨rfl, by simp only [ev]; omega, by simp only [ev]; rw [eat, ← hba]⟩, ?_, ?_, ?_, ?_, by simp [ev]⟩, ?_⟩, ?_, ?_, ?_, ?_, ?_⟩
      all_goals (try rw [List.foldl_cons])
      all_goals (try rw [e])
      · simp only; omega
      · simp only; omega
      · simp only; omega
      · rfl
      · exact en.1
      · simp only; rw [tl]; exact en.2.1
      · exact en.2.2.1
      · rw [← eat]; exact en.2.2.2
      · simp only; omega
      · exact eat
    · refine ⟨trivial, ?_, rfl, hlast, ?_, eat⟩
      · simp only [List.foldl_nil]; rw [tl]
      · simp only; omega
    · have ho := hd_ok hby g3
      have e1 := en_ok most (Mxm.tk s.left).1 (_root_.Go.Proofs.Ytomaajagncjiiaa.PB.hd (s.came ++ [b])).f3 (by rw [tl]; exact hI.len) ho.1.2.1 tp g6
      rw [decide_eq_false g1]
      generalize _root_.Go.Proofs.Ytomaajagncjiiaa.PB.hd (s.came ++ [b]) = hh at *
      have e : nx ((s.left.length : Int), false, last) (ev 1 s.at_ hh 0) = ((s.left.length : Int) + 1, false, s.at_) := by simp [nx, ev]
      refine ⟨⟨⟨by simp only [ev]; omega, by simp only [ev]; omega, fun h => absurd h (by simp [ev]), ?_, ?_, ?_, ?_, by simp [ev]⟩, trivial⟩, ?_, ?_, ?_, ?_, ?_⟩
      all_goals (try rw [List.foldl_cons])
      all_goals (try rw [e])
      · simp only; omega
      · simp only; omega
      · simp only; omega
      · rfl
      · simp only [List.foldl_nil]; rw [e1.1, tl]; rfl
      · rfl
      · simp only [List.foldl_nil]; omega
      · simp only; omega
      · exact eat
    · have ho := hd_ok hby g3
      rw [decide_eq_false g1]
      generalize _root_.Go.Proofs.Ytomaajagncjiiaa.PB.hd (s.came ++ [b]) = hh at *
      have e : nx ((s.left.length : Int), false, last) (ev 2 s.at_ hh 0) = ((s.left.length : Int), true, s.at_) := by simp [nx, ev]
      have en := ends_nest a D s hh.f3 (s.left.length : Int) s.at_ (by omega) (Int.le_refl _) (by omega) (by omega) (by omega) ho.1.2.1
      refine ⟨⟨⟨by simp only [ev]; omega, by simp only [ev]; omega, fun h => absurd h (by simp [ev]), ?_, ?_, ?_, ?_, by simp [ev]⟩, ?_⟩, ?_, ?_, ?_, ?_, ?_⟩
      all_goals (try rw [List.foldl_cons])
      all_goals (try rw [e])
      · simp only; omega
      · simp only; omega
      · simp only; omega
      · rfl
      · exact en.1
      · simp only; rw [tl]; exact en.2.1
      · exact en.2.2.1
      · rw [← eat]; exact en.2.2.2
      · simp only; omega
      · exact eat
  obtain ⟨k1, k2, k3, k4, k5, k6⟩ := key
  unfold closeM
  split
  · rename_i hc
    have xe := exits_nest a D s1.at_ (by omega) s1.left (x1.foldl nx ((s.left.length : Int), decide (0 < s.leaf), last)).2.2 (by omega) (by omega) (by omega)
    have e : x1.foldl nx ((s.left.length : Int), decide (0 < s.leaf), last) = ((s1.left.length : Int), false, (x1.foldl nx ((s.left.length : Int), decide (0 < s.leaf), last)).2.2) := by
      refine Prod.ext k2 (Prod.ext ?_ rfl)
      rw [k3, decide_eq_false (by omega)]
    rw [List.foldl_append]
    simp only
    refine ⟨okL_append a D _ _ _ k1 (by rw [e]; exact xe.1), ?_, ?_, ?_⟩
    · rw [e]; exact xe.2.1
    · rw [e, xe.2.2.1, decide_eq_false (by omega)]
    · rw [e, ← k6]; exact xe.2.2.2
  · simp only [List.append_nil]
    exact ⟨k1, k2, k3, k4⟩
theorem run_nest (a : ByteArray) (D : Int) (most : Nat) (hD : (most : Int) ≤ mx D 0) (hm : most ≤ 64) : ∀ (l : List Int) (s : St) (i : Nat) (acc : List Ev) (last : Int), Inv most s i → l = (bytesOf a).drop i → i + l.length = a.size → last ≤ (i : Int) →
    ∃ xs e j, runM most s l (i : Int) acc = (acc ++ xs, e, j) ∧ okL a D ((s.left.length : Int), decide (0 < s.leaf), last) xs ∧ (e = 0 → (xs.foldl nx ((s.left.length : Int), decide (0 < s.leaf), last)).1 = 0 ∧ (xs.foldl nx ((s.left.length : Int), decide (0 < s.leaf), last)).2.1 = false) ∧ xs.length ≤ l.length * (most + 3)
  | [], s, i, acc, last, hI, hl, hi, hla => by
    refine ⟨[], (if done s = true then 0 else 2), (i : Int), by rw [List.append_nil]; rfl, trivial, fun h => ?_, by simp⟩
    by_cases hd : done s = true
    · unfold done at hd
      simp only [Bool.and_eq_true, beq_iff_eq] at hd
      simp only [List.foldl_nil]
      exact ⟨hd.1.1.2, decide_eq_false (by omega)⟩
    · rw [if_neg hd] at h; exact absurd h (by decide)
  | b :: r, s, i, acc, last, hI, hl, hi, hla => by
    simp only [List.length_cons] at hi
    have hbt := Bs.drop_at a (i : Int) (by omega) (by omega)
    rw [Int.toNat_natCast, ← hl] at hbt
    have hb1 := (List.cons.inj hbt).1
    have hr1 : r = (bytesOf a).drop (i + 1) := by
      have := (List.cons.inj hbt).2
      rw [show ((i : Int) + 1).toNat = i + 1 by omega] at this
      exact this
    have hbr : 0 ≤ b ∧ b < 256 := Bs.bytes_of a b (List.mem_of_mem_drop (by rw [← hl]; simp))
    obtain ⟨⟨s', x, e⟩, hp⟩ : ∃ q, pushM most s b = q := ⟨_, rfl⟩
    rw [runM_step most s s' b x e _ _ _ hp]
    by_cases he : e = 0
    · subst he
      have hq := push_inv most s s' b x i hI hbr hp
      have hn := push_nest a D most hD hm s s' b x i last hI hbr hb1 (by omega) hla hp
      obtain ⟨xs, e, j, c1, c2, c3, c4⟩ := run_nest a D most hD hm r s' (i + 1) (acc ++ x) _ hq.1 hr1 (by omega) (Int.le_trans hn.2.2.2 (by omega))
      simp only [ne_eq, not_true_eq_false, if_false]
      have eq : x.foldl nx ((s.left.length : Int), decide (0 < s.leaf), last) = ((s'.left.length : Int), decide (0 < s'.leaf), (x.foldl nx ((s.left.length : Int), decide (0 < s.leaf), last)).2.2) := Prod.ext hn.2.1 (Prod.ext hn.2.2.1 rfl)
      refine ⟨x ++ xs, e, j, ?_, okL_append a D _ _ _ hn.1 (by rw [eq]; exact c2), fun h => ?_, ?_⟩
      · rw [← List.append_assoc, ← c1, show ((i : Int) + 1) = ((i + 1 : Nat) : Int) by omega]
      · rw [List.foldl_append, eq]; exact c3 h
      · rw [List.length_append, List.length_cons, Nat.add_mul]; have := hq.2.2; omega
    · rw [if_pos he]
      exact ⟨[], e, _, by rw [List.append_nil], trivial, fun h => absurd h he, by simp⟩
theorem EventNested (a0 : ByteArray) (a1 : Int) (_ : a0.size ≤ 140737488351232) (_ : (Lit.int .i64 a1).wf = true) : ∃ k, gantletlaw09_EventNested.f k a0 a1 = some true := by
  refine ⟨100001, ?_⟩
  unfold gantletlaw09_EventNested.f gantletlaw09_great.f
  rw [awake_ok _ (by decide), Option.bind_some, if_pos rfl, Option.bind_some]
  by_cases h1 : (a0.size : Int) > 300
  · rw [show decide ((a0.size : Int) > 300) = true from decide_eq_true h1]
    simp only [gantletlaw09_EventNested.j0, if_true]
    rw [awake_ok _ (by decide), Option.bind_some]
  rw [show decide ((a0.size : Int) > 300) = false from decide_eq_false h1]
  simp only [gantletlaw09_EventNested.j0, Bool.false_eq_true, if_false]
  rw [show event_Whole.f a0 a1 = some (wholeM (mn (mx a1 0) 64).toNat (bytesOf a0)) by unfold event_Whole.f; rw [if_pos (by omega)], Option.bind_some]
  have hm : (mn (mx a1 0) 64).toNat ≤ 64 ∧ ((mn (mx a1 0) 64).toNat : Int) ≤ mx a1 0 := by
    have : mn (mx a1 0) 64 ≤ 64 ∧ mn (mx a1 0) 64 ≤ mx a1 0 ∧ 0 ≤ mx a1 0 := by unfold mn mx; (repeat' split) <;> omega
    omega
  generalize (mn (mx a1 0) 64).toNat = most at hm ⊢
  obtain ⟨xs, e, j, c1, c2, c3, c4⟩ := run_nest a0 a1 most hm.2 hm.1 (bytesOf a0) init0 0 [] 0 (inv0 most) (by simp) (by rw [bytesOf_length]; omega) (by omega)
  have hw : wholeM most (bytesOf a0) = (xs, e, j) := c1
  rw [hw]
  have hmul : (bytesOf a0).length * (most + 3) ≤ 300 * 67 := Nat.mul_le_mul (by rw [bytesOf_length]; omega) (by omega)
  exact nested_l0 a0 a1 e xs (by omega) _ (fun h => c3 h) xs.length 100000 0 0 false 0 (by omega) (by omega) (by simpa [init0] using c2) (by simp [init0]) (by omega) (by omega)
end Go.Proofs.Ytomaajagncjiiaa.Pure
