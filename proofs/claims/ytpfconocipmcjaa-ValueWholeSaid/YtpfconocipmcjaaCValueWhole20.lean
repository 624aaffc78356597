/- What the row of ValueWhole stands on, made small by a program of this session (pack.py). -/
import Derived.Test.YtpfconocipmcjaaCValueWhole2
import Derived.Test.YtpfconocipmcjaaCValueWhole19
namespace Go.Proofs.Ytpfconocipmcjaa.Vp
open RowKit PC YtpfconocipmcjaaW.PrintWords YtpfconocipmcjaaW.PrintLast YtpfconocipmcjaaW.PrintMore Own Sl
open Bs
set_option linter.unusedVariables false
set_option linter.unusedSimpArgs false
theorem v1 : wholeV (mn (mx 9 0) 64).toNat (bytesOf (⟨#[1, 1, 5]⟩ : ByteArray)) = (7, 2) := by decide +kernel
theorem v2 : wholeV (mn (mx 9 0) 64).toNat (bytesOf (⟨#[36, 0]⟩ : ByteArray)) = (7, 1) := by decide +kernel
theorem v3 : wholeV (mn (mx 9 0) 64).toNat (bytesOf (⟨#[48, 3, 2, 1, 5]⟩ : ByteArray)) = (0, 5) := by decide +kernel
theorem v4 : wholeV (mn (mx 9 0) 64).toNat (bytesOf (⟨#[16, 0]⟩ : ByteArray)) = (7, 1) := by decide +kernel
theorem whole_at (a : ByteArray) (d x y : Int) (h : wholeV (mn (mx d 0) 64).toNat (bytesOf a) = (x, y)) (hs : a.size ≤ 700) (w : World) :
 Calls Try.prog 9 #[.string a, .int .i64 d] w fun e w' => e = .returned (.tuple #[.int .i64 x, .int .i64 y]) ∧ Upd None0 w w' := by
 have := whole_any a d w hs
 rw [h] at this
 exact this
set_option maxHeartbeats 4000000 in
set_option maxRecDepth 100000 in
theorem awake_any (w : World) :
 Calls Try.prog 8 #[] w fun e w' => e = .returned (.bool true) ∧ Upd None0 w w' := by
 have hS := Sp.nil (w := w) (S := None0)
 have H1 := Aside0.mk (whole_at _ _ _ _ v1 zz13)
 have H2 := Aside0.mk (whole_at _ _ _ _ v2 zz13)
 have H3 := Aside0.mk (whole_at _ _ _ _ v3 zz13)
 have H4 := Aside0.mk (whole_at _ _ _ _ v4 zz13)
 go_enter Try.func8, Try.ntmps8
 go_wp2_with (first
  | (go_at_call 9
     first
     | ((with_reducible refine (H1.out _).mono ?_)
        rintro e w4 ⟨rfl, hun⟩
        replace hS := hS.toN hun)
     | ((with_reducible refine (H2.out _).mono ?_)
        rintro e w4 ⟨rfl, hun⟩
        replace hS := hS.toN hun)
     | ((with_reducible refine (H3.out _).mono ?_)
        rintro e w4 ⟨rfl, hun⟩
        replace hS := hS.toN hun)
     | ((with_reducible refine (H4.out _).mono ?_)
        rintro e w4 ⟨rfl, hun⟩
        replace hS := hS.toN hun)))
 go_ret
 exact ⟨rfl, hS.lt.u⟩
end Go.Proofs.Ytpfconocipmcjaa.Vp
namespace Go.Proofs.Ytpfconocipmcjaa.Vp
open RowKit PC YtpfconocipmcjaaW.PrintWords YtpfconocipmcjaaW.PrintLast YtpfconocipmcjaaW.PrintMore
open Bs
set_option linter.unusedVariables false
set_option linter.unusedSimpArgs false
def wrRun : Cs → List Int → Int → Int
 | _, [], _ => -1
 | s, b :: r, i => match pushC s b with
   | none => i
   | some s' => wrRun s' r (i + 1)
def wrC (tag n : Int) (l : List Int) : Int := match startC tag n with
 | none => 0
 | some s => wrRun s l 1
def takeB : List Ev → List Int
 | [] => []
 | e :: l => if e.f0 = 3 then e.f3 :: takeB l else []
def fv : Int → List Ev → Int
 | _, [] => -1
 | i, e :: l =>
   if e.f2.f0 ≠ 0 then fv (i + 1) l
   else if e.f0 = 1 ∧ e.f2.f1 ≠ 16 ∧ e.f2.f1 ≠ 17 then i
   else if e.f0 ≠ 2 then fv (i + 1) l
   else if e.f2.f1 = 0 ∨ e.f2.f1 = 16 ∨ e.f2.f1 = 17 then i
   else if 0 ≤ wrC e.f2.f1 e.f2.f3 (takeB l) then i + wrC e.f2.f1 e.f2.f3 (takeB l) else fv (i + 1) l
def bi : Cs → Int → List Ev → Int
 | _, _, [] => -1
 | s, i, e :: l => match lookC s e with
   | none => i
   | some s' => bi s' (i + 1) l
theorem look_3 {e : Ev} (h : e.f0 = 3) (s : Cs) : lookC s e = pushC s e.f3 := by unfold lookC; rw [if_pos h]
theorem look_1 {e : Ev} (h : e.f0 = 1) (hc : e.f2.f0 = 0) (s : Cs) : lookC s e = if e.f2.f1 = 16 ∨ e.f2.f1 = 17 then some s else none := by unfold lookC; rw [if_neg zz3, if_pos ⟨h, hc⟩]
theorem look_2 {e : Ev} (h : e.f0 = 2) (hc : e.f2.f0 = 0) (s : Cs) : lookC s e = startC e.f2.f1 e.f2.f3 := by unfold lookC; rw [if_neg zz3, if_neg (fun h1 => by omega), if_pos ⟨h, hc⟩]
theorem look_x {e : Ev} (h : e.f0 = 2) (hc : ¬ e.f2.f0 = 0) (s : Cs) : lookC s e = some .any := by unfold lookC; rw [if_neg zz3, if_neg (fun h1 => by omega), if_neg (fun h1 => hc h1.2), if_pos h]
theorem look_r {e : Ev} (h3 : ¬ e.f0 = 3) (h1 : ¬ (e.f0 = 1 ∧ e.f2.f0 = 0)) (h2 : ¬ e.f0 = 2) (s : Cs) : lookC s e = some s := by unfold lookC; rw [if_neg h3, if_neg h1, if_neg (fun h => h2 h.1), if_neg h2]
theorem bi_none {s : Cs} {e : Ev} (h : lookC s e = none) (i : Int) (l : List Ev) : bi s i (e :: l) = i := by rw [bi, h]
theorem bi_some {s s' : Cs} {e : Ev} (h : lookC s e = some s') (i : Int) (l : List Ev) : bi s i (e :: l) = bi s' (i + 1) l := by rw [bi, h]
theorem next_0 {e : Ev} (h3 : ¬ e.f0 = 3) (h2 : ¬ e.f0 = 2) (r : Int) : nextR r e = 0 := by unfold nextR; rw [if_neg h3, if_neg h2]
theorem bi_any : ∀ (l : List Ev) (s s' : Cs) (i : Int), WfL 0 l → bi s i l = bi s' i l
 | [], s, s', i, h => rfl
 | e :: l, s, s', i, h => by
   obtain ⟨ho, hl⟩ := h
   have h3 : ¬ e.f0 = 3 := fun h => by have := ho.2.1 h; omega
   by_cases h1 : e.f0 = 1 ∧ e.f2.f0 = 0
   ·
    have hn := next_0 h3 (fun h => by omega) 0
    rw [hn] at hl
    by_cases ht : e.f2.f1 = 16 ∨ e.f2.f1 = 17
    ·
     rw [bi_some ((look_1 h1.1 h1.2 s).trans (if_pos ht)), bi_some ((look_1 h1.1 h1.2 s').trans (if_pos ht))]
     exact bi_any l s s' (i + 1) hl
    ·
     rw [bi_none ((look_1 h1.1 h1.2 s).trans (if_neg ht)), bi_none ((look_1 h1.1 h1.2 s').trans (if_neg ht))]
   ·
    by_cases h2 : e.f0 = 2
    ·
     by_cases hc : e.f2.f0 = 0
     ·
      rw [bi, bi, look_2 h2 hc, look_2 h2 hc]
     ·
      rw [bi, bi, look_x h2 hc, look_x h2 hc]
    ·
     have hn := next_0 h3 h2 0
     rw [hn] at hl
     rw [bi_some (look_r h3 h1 h2 s), bi_some (look_r h3 h1 h2 s')]
     exact bi_any l s s' (i + 1) hl
theorem wrRun_pos : ∀ (l : List Int) (s : Cs) (i : Int), 0 < i → wrRun s l i = -1 ∨ i ≤ wrRun s l i
 | [], s, i, h => .inl rfl
 | b :: r, s, i, h => by
   unfold wrRun
   cases pushC s b with
   | none => exact .inr (Int.le_refl _)
   | some s' =>
     rcases wrRun_pos r s' (i + 1) zz3 with h1 | h1
     ·
      exact .inl h1
     ·
      exact .inr (by show i ≤ wrRun s' r (i + 1); omega)
theorem bi_bytes : ∀ (l : List Ev) (s : Cs) (r i j : Int), WfL r l → 0 < j → bi s (i + j) l = if 0 ≤ wrRun s (takeB l) j then i + wrRun s (takeB l) j else bi .any (i + j) l
 | [], s, r, i, j, h, hj => by simp [takeB, wrRun, bi]
 | e :: l, s, r, i, j, h, hj => by
   obtain ⟨ho, hl⟩ := h
   by_cases h3 : e.f0 = 3
   ·
    have hk : ∀ s, lookC s e = pushC s e.f3 := fun s => by unfold lookC; rw [if_pos h3]
    have ha : ∀ i l, bi .any i (e :: l) = bi .any (i + 1) l := fun i l => by rw [bi, hk]; rfl
    have ht : takeB (e :: l) = e.f3 :: takeB l := by rw [takeB, if_pos h3]
    have hb : bi s (i + j) (e :: l) = match pushC s e.f3 with | none => i + j | some s' => bi s' (i + j + 1) l := by rw [bi, hk]
    rw [ha, ht, hb, wrRun]
    cases hp : pushC s e.f3 with
    | none => simp only; rw [if_pos zz3]
    | some s' =>
      simp only
      have ih := bi_bytes l s' _ i (j + 1) hl zz3
      rw [← Int.add_assoc] at ih
      exact ih
   ·
    have ht : takeB (e :: l) = [] := by rw [takeB, if_neg h3]
    rw [ht, wrRun, if_neg zz13]
    have h0 := ho.2.2.1 h3
    subst h0
    exact bi_any (e :: l) s .any (i + j) ⟨ho, hl⟩
theorem fv_bi : ∀ (l : List Ev) (r i : Int), WfL r l → fv i l = bi .any i l
 | [], r, i, h => rfl
 | e :: l, r, i, h => by
   obtain ⟨ho, hl⟩ := h
   have ih := fv_bi l _ (i + 1) hl
   by_cases hc : e.f2.f0 = 0
   ·
    have f0 : ¬ (e.f2.f0 ≠ 0) := fun h => h hc
    by_cases h1 : e.f0 = 1
    ·
     by_cases ht : e.f2.f1 = 16 ∨ e.f2.f1 = 17
     ·
      rw [bi_some ((look_1 h1 hc .any).trans (if_pos ht)), fv, if_neg f0, if_neg (fun h => by omega), if_pos zz3]
      exact ih
     ·
      rw [bi_none ((look_1 h1 hc .any).trans (if_neg ht)), fv, if_neg f0, if_pos ⟨h1, fun h => ht (.inl h), fun h => ht (.inr h)⟩]
    ·
     by_cases h2 : e.f0 = 2
     ·
      rw [fv, if_neg f0, if_neg (fun h => h1 h.1), if_neg (fun h => h h2)]
      by_cases h0 : e.f2.f1 = 0 ∨ e.f2.f1 = 16 ∨ e.f2.f1 = 17
      ·
       rw [if_pos h0, bi_none ((look_2 h2 hc .any).trans (by unfold startC; rw [if_pos h0]))]
      ·
       rw [if_neg h0, wrC]
       cases hs : startC e.f2.f1 e.f2.f3 with
       | none =>
         rw [bi_none ((look_2 h2 hc .any).trans hs)]
         simp
       | some s =>
         rw [bi_some ((look_2 h2 hc .any).trans hs), bi_bytes l s _ i 1 hl zz13]
         simp only
         split
         ·
          rfl
         ·
          exact ih
     ·
      rw [fv, if_neg f0, if_neg (fun h => h1 h.1), if_pos h2]
      by_cases h3 : e.f0 = 3
      ·
       rw [bi_some (look_3 h3 .any)]; exact ih
      ·
       rw [bi_some (look_r h3 (fun h => h1 h.1) h2 .any)]; exact ih
   ·
    rw [fv, if_pos hc]
    by_cases h3 : e.f0 = 3
    ·
     rw [bi_some (look_3 h3 .any)]; exact ih
    ·
     by_cases h2 : e.f0 = 2
     ·
      rw [bi_some (look_x h2 hc .any)]; exact ih
     ·
      rw [bi_some (look_r h3 (fun h => hc h.2) h2 .any)]; exact ih
theorem bi_bad : ∀ (l : List Ev) (s : Cs) (i : Nat), (match badE s l with
 | none => bi s i l = -1
 | some e => ∃ j : Nat, i ≤ j ∧ bi s i l = (j : Int) ∧ l[j - i]? = some e)
 | [], s, i => rfl
 | e :: l, s, i => by
   unfold badE bi
   cases hk : lookC s e with
   | none => exact ⟨i, Nat.le_refl _, rfl, by rw [Nat.sub_self]; rfl⟩
   | some s' =>
     simp only
     have ih := bi_bad l s' (i + 1)
     cases hb : badE s' l with
     | none =>
       rw [hb] at ih
       exact ih
     | some e2 =>
       rw [hb] at ih
       obtain ⟨j, h1, h2, h3⟩ := ih
       refine ⟨j, zz3, h2, ?_⟩
       rw [show j - i = (j - (i + 1)) + 1 by omega]
       exact h3
end Go.Proofs.Ytpfconocipmcjaa.Vp
